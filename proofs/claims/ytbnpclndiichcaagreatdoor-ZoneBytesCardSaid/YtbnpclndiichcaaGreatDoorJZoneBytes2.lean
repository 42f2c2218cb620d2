/- What the functions come to in plain data, with proofs, and what that answers. -/
import Derived.Test.YtbnpclndiichcaaGreatDoorJZoneBytes1
section
set_option linter.unusedVariables false
set_option linter.unusedSimpArgs false
namespace Go.Proofs.YtbnpclndiichcaaGreatDoor
open Go Go.Proofs.YtbnpclndiichcaaGreatDoor.Eng Go.Proofs.YtbnpclndiichcaaGreatDoor.Pl
set_option linter.unusedVariables false
set_option linter.unusedSimpArgs false
set_option maxRecDepth 100000
set_option maxHeartbeats 2000000
theorem trOk_cons (n : Nat) (b : Option Int) (c : Rec) (r : List Rec) : trOk n b (c :: r) = true ↔ ((0 ≤ c.2 ∧ c.2 < n) ∧ (∀ a, b = some a → c.1 > a)) ∧ trOk n (some c.1) r = true := by
  cases b with
  | none => simp [trOk]
  | some a => simp [trOk]
theorem sallTr (ty : List Ty) (tr : List Rec) (hl : tr.length ≤ 100000) (lp : List V) (ft : ByteArray) (v : Int) {K} (h : K (trOk ty.length none tr) ft v (TV ty) false true (RV tr) false true lp false true) :
    Xzone_all_api_Trans_ (RV tr) (TV ty) (RV tr) lp ft v K := by
  unfold Xzone_all_api_Trans_ Yzone_all_api_Trans_
  rw [RV_len]
  refine lp_ind (fun x => tr.length - x.1.2.2.2.2.1.toNat) (fun x => ∃ (j : Nat) (b : Option Int), j ≤ tr.length ∧ x = ((((), (), ()), false, RV tr, (tr.length : Int), (j : Int), ()), (TV ty, RV tr, lp, ft, v, ()), ()) ∧ trOk ty.length b (tr.drop j) = trOk ty.length none tr ∧ (j = 0 → b = none) ∧ (∀ (h0 : 0 < j) (hj : j - 1 < tr.length), b = some (tr[j - 1]).1)) ?_ ⟨0, none, by omega, rfl, rfl, fun _ => rfl, fun h => absurd h (by omega)⟩
  rintro x ⟨j, b, hj, rfl, hok, hb0, hb1⟩ k hk
  unfold Lzone_all_api_Trans__0
  simp only [decide_eq_true_eq, RV_len]
  by_cases e : j = tr.length
  · rw [if_neg (by omega)]
    have : trOk ty.length none tr = true := by rw [← hok, e, List.drop_length]; rfl
    rw [this] at h; exact h
  · have hj' : j < tr.length := by omega
    rw [Int.toNat_natCast, if_pos (by omega), if_pos (by omega)]
    refine asR1 hj' (asR2 hj' ?_)
    have hd : tr.drop j = tr[j] :: tr.drop (j + 1) := List.drop_eq_getElem_cons hj'
    rw [hd] at hok
    have hcons := trOk_cons ty.length b tr[j] (tr.drop (j + 1))
    rw [hok] at hcons
    have e1 : w64 ((j : Int) + 1) = ((j + 1 : Nat) : Int) := by rw [w64_in (by omega) (by omega)]; omega
    have bad : ∀ w, w = false → ¬ ((0 ≤ (tr[j]).2 ∧ (tr[j]).2 < ty.length) ∧ (∀ a, b = some a → (tr[j]).1 > a)) → K w ft v (TV ty) false true (RV tr) false true lp false true := fun w hw hn => by
      have : trOk ty.length none tr = false := by
        cases hr : trOk ty.length none tr
        · rfl
        · exact absurd (hcons.1 hr).1 hn
      rw [this] at h; rw [hw]; exact h
    have good : ((0 ≤ (tr[j]).2 ∧ (tr[j]).2 < ty.length) ∧ (∀ a, b = some a → (tr[j]).1 > a)) → k ((((), (), ()), false, RV tr, (tr.length : Int), ((j + 1 : Nat) : Int), ()), (TV ty, RV tr, lp, ft, v, ()), ()) := fun hg => by
      refine hk _ ⟨j + 1, some (tr[j]).1, by omega, rfl, ?_, fun h => absurd h (by omega), fun h0 hj => rfl⟩ ?_
      · rw [Bool.eq_iff_iff]
        exact ⟨fun hr => hcons.2 ⟨hg, hr⟩, fun hr => (hcons.1 hr).2⟩
      · show tr.length - ((j + 1 : Nat) : Int).toNat < tr.length - ((j : Nat) : Int).toNat
        omega
    unfold Xzone_Right_2 Yzone_Right_2
    simp only [decide_eq_true_eq, TV_len, RV_len, beq_iff_eq, e1]
    by_cases c1 : (tr[j]).2 ≥ 0
    · rw [if_pos c1]
      by_cases c2 : (tr[j]).2 < (ty.length : Int)
      · rw [if_pos c2]
        by_cases c3 : j = 0
        · rw [if_pos (by omega), if_neg (by simp)]
          exact good ⟨⟨c1, c2⟩, fun a ha => by rw [hb0 c3] at ha; cases ha⟩
        · rw [if_neg (by omega)]
          have e2 : w64 ((j : Int) - 1) = ((j - 1 : Nat) : Int) := by rw [w64_in (by omega) (by omega)]; omega
          rw [e2, if_pos (by omega), Int.toNat_natCast]
          refine asR1 (by omega) ?_
          have hb := hb1 (by omega) (by omega)
          by_cases c4 : (tr[j]).1 > (tr[j - 1]'(by omega)).1
          · rw [if_neg (by simpa using c4)]
            exact good ⟨⟨c1, c2⟩, fun a ha => by rw [hb] at ha; cases ha; exact c4⟩
          · rw [if_pos (by simpa using c4)]
            exact bad _ rfl fun hn => c4 (hn.2 _ hb)
      · rw [if_neg c2, if_pos (show (!false) = true from rfl)]
        exact bad _ rfl fun hn => c2 hn.1.2
    · rw [if_neg c1, if_pos (show (!false) = true from rfl)]
      exact bad _ rfl fun hn => c1 hn.1.1
theorem sodd (k a b c x : Int) {K : Bool → Prop} (h : K (oddR x)) : Xzone_odd (k, a, b, c, x, ()) K := by
  unfold Xzone_odd Yzone_odd
  unfold oddR at h
  simp only [decide_eq_true_eq]
  by_cases h1 : x < 0
  · rw [if_pos h1]
    have : decide (x < 0) = true := decide_eq_true h1
    rw [this] at h; exact h
  · rw [if_neg h1]
    have : decide (x < 0) = false := decide_eq_false h1
    rw [this] at h; exact h
theorem S_nil (l : List UInt8) : (ByteArray.toList (S l) == ByteArray.toList (ByteArray.mk #[])) = l.isEmpty := by
  rw [show ByteArray.mk #[] = S [] from rfl, S_toList, S_toList]
  cases l <;> rfl
theorem sends (z : Zn) (h : ZI z) (X Y L) {K : Bool → Prop} (hk : K (endsOk z)) : Xzone_ends (X, Y, L, S z.ft, z.v, ()) K := by
  unfold Xzone_ends Yzone_ends
  simp only [S_nil]
  unfold endsOk at hk
  cases e : z.ft.isEmpty
  · rw [e] at hk
    rw [if_neg (by simp)]
    refine sfootParse z.ft (by have := h.ft; omega) ?_
    refine sodd _ _ _ _ _ ?_
    simp only [Bool.false_or] at hk
    generalize (Ft.parse z.ft).1 = f at *
    generalize (Ft.parse z.ft).2 = o at *
    have ge : ∀ n : Int, n = 3 ∨ n = 2 → True := fun _ _ => trivial
    cases h1 : oddR f.fr.x
    · rw [if_neg (by simp)]
      refine sodd _ _ _ _ _ ?_
      rw [h1] at hk
      cases h2 : oddR f.to.x
      · rw [h2] at hk
        rw [if_neg (by simp)]
        cases o
        · simpa using hk
        · simpa using hk
      · rw [h2] at hk
        rw [if_pos rfl]
        cases o
        · simpa using hk
        · simpa using hk
    · rw [h1] at hk
      rw [if_pos rfl]
      cases o
      · simpa using hk
      · simpa using hk
  · rw [e] at hk
    rw [if_pos rfl]
    exact hk
theorem sRight (z : Zn) (h : ZI z) {K : Bool → Prop} (hk : K (zoneRight z)) : Xzone_Right (tupZ z) K := by
  show Xzone_Right (TV z.ty, RV z.tr, RV z.lp, S z.ft, z.v, ()) K
  unfold Xzone_Right Yzone_Right
  dsimp only
  unfold zoneRight at hk
  refine scount z h fun r => ?_
  cases e1 : countOk z
  · rw [e1] at hk
    rw [if_pos (show (!false) = true from rfl)]
    simpa using hk
  rw [e1] at hk
  rw [if_neg (by simp)]
  refine sRecRight z.lp h.ri (by have := h.lp; omega) ?_
  cases e2 : recRight z.lp
  · rw [e2] at hk
    rw [if_pos (show (!false) = true from rfl)]
    simpa using hk
  rw [e2] at hk
  rw [if_neg (by simp)]
  refine sExpiry z.lp (by have := h.lp; omega) fun n => ?_
  have rest : ∀ {K : Bool → Prop}, K (z.ty.all (fun t => decide (-89999 ≤ t.1 ∧ t.1 ≤ 93599)) && trOk z.ty.length none z.tr && endsOk z) → Xzone_all_api_Type_ (TV z.ty) (fun r20 =>
      Xzone_all_api_Trans_ (RV z.tr) (TV z.ty) (RV z.tr) (RV z.lp) (S z.ft) z.v (fun r21 r22 r23 r24 r25 r26 r27 r28 r29 r30 r31 r32 =>
      (if r20 = true then (if r21 = true then Xzone_ends (r24, r27, r30, r22, r23, ()) (fun r33 => K r33) else K false) else K false))) := by
    intro K hk
    refine sallT z.ty (by have := h.ty; omega) ?_
    refine sallTr z.ty z.tr (by have := h.tr; omega) _ _ _ ?_
    cases e4 : z.ty.all (fun t => decide (-89999 ≤ t.1 ∧ t.1 ≤ 93599))
    · rw [e4] at hk
      rw [if_neg (by simp)]
      simpa using hk
    rw [e4] at hk
    rw [if_pos rfl]
    cases e5 : trOk z.ty.length none z.tr
    · rw [e5] at hk
      rw [if_neg (by simp)]
      simpa using hk
    rw [e5] at hk
    rw [if_pos rfl]
    exact sends z h _ _ _ (by simpa using hk)
  cases e3 : lastExp z.lp
  · rw [e3] at hk
    rw [if_neg (by simp)]
    exact rest (by simpa [Bool.and_assoc] using hk)
  · rw [e3] at hk
    rw [if_pos rfl]
    by_cases e6 : z.v < 4
    · rw [if_pos (by simpa using e6)]
      have : decide (z.v ≥ 4) = false := by simp; omega
      rw [this] at hk
      simpa using hk
    · rw [if_neg (by simpa using e6)]
      have : decide (z.v ≥ 4) = true := by simp; omega
      rw [this] at hk
      exact rest (by simpa [Bool.and_assoc] using hk)
end Go.Proofs.YtbnpclndiichcaaGreatDoor
end
section
set_option linter.unusedVariables false
set_option linter.unusedSimpArgs false
namespace Go.Proofs.YtbnpclndiichcaaGreatDoor
open Go Go.Proofs.YtbnpclndiichcaaGreatDoor.Eng Go.Proofs.YtbnpclndiichcaaGreatDoor.Pl
set_option linter.unusedVariables false
set_option linter.unusedSimpArgs false
set_option maxRecDepth 100000
set_option maxHeartbeats 2000000
theorem trOk_all (n : Nat) : ∀ (l : List Rec) (b : Option Int), trOk n b l = true → (∀ i (h : i < l.length), (∀ a, b = some a → (l[i]).1 > a) ∧ 0 ≤ (l[i]).2 ∧ (l[i]).2 < n) ∧ (∀ (s t : Nat) (hs : s < l.length) (ht : t < l.length), s < t → (l[s]).1 < (l[t]).1)
  | [], b, h => ⟨fun i h => by simp at h, fun s t hs => by simp at hs⟩
  | c :: r, b, h => by
    obtain ⟨⟨h1, h2⟩, h3⟩ := (trOk_cons n b c r).1 h
    obtain ⟨ih1, ih2⟩ := trOk_all n r (some c.1) h3
    refine ⟨fun i hi => ?_, fun s t hs ht hst => ?_⟩
    · cases i with
      | zero => exact ⟨h2, h1⟩
      | succ i =>
        obtain ⟨q1, q2⟩ := ih1 i (by simpa using hi)
        refine ⟨fun a ha => ?_, q2⟩
        have := q1 _ rfl
        have := h2 a ha
        simp only [List.getElem_cons_succ]
        omega
    · cases t with
      | zero => omega
      | succ t =>
        cases s with
        | zero => exact (ih1 t (by simpa using ht)).1 _ rfl
        | succ s => exact ih2 s t (by simpa using hs) (by simpa using ht) (by omega)
theorem srt_tr {n : Nat} {l : List Rec} (h : trOk n none l = true) : Srt l := fun s t hs ht hst => by
  rcases Nat.lt_or_ge s t with h1 | h1
  · have := (trOk_all n l none h).2 s t hs ht h1; omega
  · have : s = t := by omega
    subst this; omega
theorem recOk_all : ∀ (l : List Rec) (k : Nat) (b : Rec), recOk k b l = true → (∀ i (h : i < l.length), (0 < k → b.1 ≤ (l[i]).1) ∧ 0 ≤ (l[i]).1) ∧ (∀ (s t : Nat) (hs : s < l.length) (ht : t < l.length), s < t → (l[s]).1 ≤ (l[t]).1)
  | [], k, b, h => ⟨fun i h => by simp at h, fun s t hs => by simp at hs⟩
  | c :: r, k, b, h => by
    obtain ⟨⟨h1, h2, h3, h4⟩, h5⟩ := (recOk_cons k b c r).1 h
    obtain ⟨ih1, ih2⟩ := recOk_all r (k + 1) c h5
    refine ⟨fun i hi => ?_, fun s t hs ht hst => ?_⟩
    · cases i with
      | zero => exact ⟨fun h => by simp only [List.getElem_cons_zero]; omega, h2⟩
      | succ i =>
        obtain ⟨q1, q2⟩ := ih1 i (by simpa using hi)
        refine ⟨fun hk => ?_, q2⟩
        have := q1 (by omega)
        simp only [List.getElem_cons_succ]
        omega
    · cases t with
      | zero => omega
      | succ t =>
        cases s with
        | zero => exact (ih1 t (by simpa using ht)).1 (by omega)
        | succ s => exact ih2 s t (by simpa using hs) (by simpa using ht) (by omega)
theorem srt_rec {l : List Rec} (h : recRight l = true) : Srt l := fun s t hs ht hst => by
  rcases Nat.lt_or_ge s t with h1 | h1
  · have := (recOk_all l 0 _ h).2 s t hs ht h1; omega
  · have : s = t := by omega
    subst this; omega
theorem srt_leaps {l : List Rec} (h : Srt l) : Srt (leapsR l) := by
  unfold leapsR
  split
  · intro s t hs ht hst
    rw [List.getElem_take, List.getElem_take]
    exact h s t _ _ hst
  · exact h
structure ZR (z : Zn) : Prop extends ZI z where
  right : zoneRight z = true
theorem ZR.all {z : Zn} (h : ZR z) : countOk z = true ∧ recRight z.lp = true ∧ (lastExp z.lp = true → z.v ≥ 4) ∧ (z.ty.all (fun t => decide (-89999 ≤ t.1 ∧ t.1 ≤ 93599)) = true) ∧ trOk z.ty.length none z.tr = true ∧ endsOk z = true := by
  have := h.right
  unfold zoneRight at this
  simp only [Bool.and_eq_true] at this
  obtain ⟨⟨⟨⟨⟨h1, h2⟩, h3⟩, h4⟩, h5⟩, h6⟩ := this
  refine ⟨h1, h2, fun he => ?_, h4, h5, h6⟩
  rw [he] at h3
  simpa using h3
theorem ZR.one {z : Zn} (h : ZR z) : 1 ≤ z.ty.length := by
  have := h.all.1
  unfold countOk nin at this
  simp only [Bool.and_eq_true, decide_eq_true_eq] at this
  omega
theorem ZR.st {z : Zn} (h : ZR z) : Srt z.tr := srt_tr h.all.2.2.2.2.1
theorem ZR.sl {z : Zn} (h : ZR z) : Srt (leapsR z.lp) := srt_leaps (srt_rec h.all.2.1)
theorem zPosix (z : Zn) (h : ZR z) (a : Int) {K : Int → Prop} (hk : K (posixR z a)) : Xzone_Posix (tupZ z) a K := by
  show Xzone_Posix (TV z.ty, RV z.tr, RV z.lp, S z.ft, z.v, ()) a K
  unfold Xzone_Posix Yzone_Posix
  exact sSum z.lp h.sl (by have := h.lp; omega) a hk
theorem headD_at {α : Type} (l : List α) (d : α) (h : 0 < l.length) : l.headD d = l[0] := by
  cases l with
  | nil => simp at h
  | cons x r => rfl
abbrev tupT (t : Ty) : Int × Bool × ByteArray × Unit := (t.1, t.2.1, S t.2.2, ())
theorem w64_rng (n : Int) : -9223372036854775808 ≤ w64 n ∧ w64 n ≤ 9223372036854775807 := by
  simp only [w64, IntKind.wrap, IntKind.bits, IntKind.signed]
  try simp
  try omega
theorem zFoot (f : Ft) (p : Int) (hp : -9223372036854775808 ≤ p ∧ p ≤ 9223372036854775807) (hf : f.ok = true) {K} (h : K (tupT (f.look p))) : Xfoot_Lookup (tupFt f) p K := by
  obtain ⟨o1, o2, _⟩ := ok_so hf
  refine sfootLookup f p hp ⟨by omega, by omega⟩ ?_
  unfold Ft.look at h
  by_cases e : f.sum p
  · rw [if_pos e] at h ⊢; exact h
  · rw [if_neg e] at h ⊢; exact h
theorem zLookup (z : Zn) (h : ZR z) (a : Int) {K} (hk : K (tupT (lookZ z a))) : Xzone_Lookup (tupZ z) a K := by
  unfold Xzone_Lookup Yzone_Lookup
  refine zIndex z h.toZI h.st a ?_
  have hle := fl_le (fun c : Rec => decide (c.1 > a)) z.tr
  have htr := h.tr
  have h1 := h.one
  unfold lookZ at hk
  have hn : indexN z a = Pl.fl (fun c : Rec => decide (c.1 > a)) z.tr := rfl
  rw [← hn] at hle
  generalize indexN z a = m at *
  have e1 : w64 ((m : Int) - 1 + 1) = (m : Int) := by rw [w64_in (by omega) (by omega)]; omega
  simp only [tupZ_eq, S_nil, TV_len, RV_len, e1]
  have found : ¬ (z.ft ≠ [] ∧ m = z.tr.length) → (if decide ((m : Int) - 1 < 0) = true then
      (if (0 : Int) ≤ 0 ∧ 0 < (z.ty.length : Int) then
      (Eng.asInt IntKind.i64 (Eng.getC (TV z.ty) (0 : Nat) (0 : Nat)) False fun n7 =>
      (Eng.asBool (Eng.getC (TV z.ty) (0 : Nat) (1 : Nat)) False fun b8 =>
      (Eng.asStr (Eng.getC (TV z.ty) (0 : Nat) (2 : Nat)) False fun t9 => K (n7, b8, t9, ())))) else False)
      else
      (if 0 ≤ (m : Int) - 1 ∧ (m : Int) - 1 < (z.tr.length : Int) then
      (Eng.asInt IntKind.i64 (Eng.getC (RV z.tr) (Int.toNat ((m : Int) - 1)) (1 : Nat)) False fun n10 =>
      (if 0 ≤ n10 ∧ n10 < (z.ty.length : Int) then
      (Eng.asInt IntKind.i64 (Eng.getC (TV z.ty) (Int.toNat n10) (0 : Nat)) False fun n11 =>
      (Eng.asBool (Eng.getC (TV z.ty) (Int.toNat n10) (1 : Nat)) False fun b12 =>
      (Eng.asStr (Eng.getC (TV z.ty) (Int.toNat n10) (2 : Nat)) False fun t13 => K (n11, b12, t13, ()))))
      else False)) else False)) := fun hno => by
    rw [if_neg hno] at hk
    by_cases hm : m = 0
    · subst hm
      rw [if_pos (by simp), if_pos (by omega)]
      refine asT1 (by omega) (asT2 (by omega) (asT3 (by omega) ?_))
      have := headD_at z.ty (0, false, []) (by omega)
      simp only [List.take_zero, List.getLast?_nil] at hk
      rw [this] at hk
      exact hk
    · rw [if_neg (by simp; omega), if_pos (by omega)]
      have e2 : Int.toNat ((m : Int) - 1) = m - 1 := by omega
      rw [e2]
      refine asR2 (by omega) ?_
      obtain ⟨_, q1, q2⟩ := (trOk_all _ _ _ h.all.2.2.2.2.1).1 (m - 1) (by omega)
      have hl : (z.tr.take m).getLast? = some (z.tr[m - 1]'(by omega)) := by
        rw [List.getLast?_eq_getElem?, List.length_take, Nat.min_eq_left hle, List.getElem?_take, if_pos (by omega), List.getElem?_eq_getElem (by omega)]
      rw [hl] at hk
      simp only at hk
      rw [if_pos ⟨q1, q2⟩]
      refine asT1 (by omega) (asT2 (by omega) (asT3 (by omega) ?_))
      rw [getD_at z.ty _ _ (by omega)] at hk
      exact hk
  cases e : z.ft.isEmpty
  · have hne : z.ft ≠ [] := by
      intro hh; rw [hh] at e; cases e
    rw [if_pos (show (!false) = true from rfl)]
    by_cases hm : m = z.tr.length
    · rw [if_pos (by simp [hm])]
      rw [if_pos ⟨hne, hm⟩] at hk
      have hp : (Ft.parse z.ft).2 = true := by
        have := h.all.2.2.2.2.2
        unfold endsOk at this
        rw [e] at this
        simp only [Bool.false_or, Bool.and_eq_true] at this
        exact this.1
      refine sfootParse z.ft (by have := h.ft; omega) ?_
      refine zPosix z h a ?_
      exact zFoot _ _ (w64_rng _) (parse_ok _ hp) hk
    · rw [if_neg (by simp; omega)]
      exact found fun hh => hm hh.2
  · have hne : z.ft = [] := by
      cases hz : z.ft with
      | nil => rfl
      | cons x r => rw [hz] at e; cases e
    rw [if_neg (by simp)]
    exact found fun hh => hh.1 hne
end Go.Proofs.YtbnpclndiichcaaGreatDoor
end
section
set_option linter.unusedVariables false
set_option linter.unusedSimpArgs false
namespace Go.Proofs.YtbnpclndiichcaaGreatDoor
open Go Go.Proofs.YtbnpclndiichcaaGreatDoor.Eng Go.Proofs.YtbnpclndiichcaaGreatDoor.Pl
set_option linter.unusedVariables false
set_option linter.unusedSimpArgs false
set_option maxRecDepth 100000
set_option maxHeartbeats 2000000
theorem sEqR1 (a b : List Rec) (hl : a.length ≤ 100000) (hb : b.length ≤ 100000) {K : Bool → Prop} (h : K (a == b)) : Xslices_Equal___api_Trans_api_Trans_ (RV a) (RV b) K := by
  unfold Xslices_Equal___api_Trans_api_Trans_ Yslices_Equal___api_Trans_api_Trans_
  rw [RV_len, RV_len]
  by_cases e : a.length = b.length
  · rw [if_neg (by simp [e])]
    refine lp_ind (fun x => a.length - x.1.2.2.2.2.1.toNat) (fun x => ∃ j : Nat, j ≤ a.length ∧ x = ((RV a, RV b, false, (a.length : Int), (j : Int), ()), ()) ∧ a.take j = b.take j) ?_ ⟨0, by omega, rfl, rfl⟩
    rintro x ⟨j, hj, rfl, hall⟩ k hk
    unfold Lslices_Equal___api_Trans_api_Trans__0
    simp only [decide_eq_true_eq, RV_len]
    by_cases ej : j = a.length
    · rw [if_neg (by omega)]
      rw [ej, List.take_length, e, List.take_length] at hall
      have : (a == b) = true := by rw [hall]; exact beq_self_eq_true _
      rw [this] at h; exact h
    · have h1 : j < a.length := by omega
      have h2 : j < b.length := by omega
      rw [Int.toNat_natCast, if_pos (by omega), if_pos (by omega)]
      refine asR1 h1 (asR2 h1 ?_)
      rw [if_pos (by omega)]
      refine asR1 h2 (asR2 h2 ?_)
      have e1 : w64 ((j : Int) + 1) = ((j + 1 : Nat) : Int) := by rw [w64_in (by omega) (by omega)]; omega
      simp only [lt, e1]
      by_cases ee : a[j] = b[j]
      · rw [if_neg (by rw [ee]; simp)]
        refine hk _ ⟨j + 1, by omega, rfl, ?_⟩ ?_
        · rw [List.take_succ_eq_append_getElem h1, List.take_succ_eq_append_getElem h2, hall, ee]
        · show a.length - ((j + 1 : Nat) : Int).toNat < a.length - ((j : Nat) : Int).toNat
          omega
      · rw [if_pos (by
          simp only [Bool.not_eq_true', Bool.and_true, Bool.and_eq_false_iff, beq_eq_false_iff_ne, ne_eq]
          by_cases q : (a[j]).1 = (b[j]).1
          · exact .inr fun q2 => ee (Prod.ext q q2)
          · exact .inl q)]
        have : (a == b) = false := by
          rw [beq_eq_false_iff_ne]; intro hh; subst hh; exact ee rfl
        rw [this] at h; exact h
  · rw [if_pos (by simp; omega)]
    have : (a == b) = false := by
      rw [beq_eq_false_iff_ne]; intro hh; exact e (by rw [hh])
    rw [this] at h; exact h
theorem sEqR2 (a b : List Rec) (hl : a.length ≤ 100000) (hb : b.length ≤ 100000) {K : Bool → Prop} (h : K (a == b)) : Xslices_Equal___api_Corr_api_Corr_ (RV a) (RV b) K := by
  unfold Xslices_Equal___api_Corr_api_Corr_ Yslices_Equal___api_Corr_api_Corr_
  rw [RV_len, RV_len]
  by_cases e : a.length = b.length
  · rw [if_neg (by simp [e])]
    refine lp_ind (fun x => a.length - x.1.2.2.2.2.1.toNat) (fun x => ∃ j : Nat, j ≤ a.length ∧ x = ((RV a, RV b, false, (a.length : Int), (j : Int), ()), ()) ∧ a.take j = b.take j) ?_ ⟨0, by omega, rfl, rfl⟩
    rintro x ⟨j, hj, rfl, hall⟩ k hk
    unfold Lslices_Equal___api_Corr_api_Corr__0
    simp only [decide_eq_true_eq, RV_len]
    by_cases ej : j = a.length
    · rw [if_neg (by omega)]
      rw [ej, List.take_length, e, List.take_length] at hall
      have : (a == b) = true := by rw [hall]; exact beq_self_eq_true _
      rw [this] at h; exact h
    · have h1 : j < a.length := by omega
      have h2 : j < b.length := by omega
      rw [Int.toNat_natCast, if_pos (by omega), if_pos (by omega)]
      refine asR1 h1 (asR2 h1 ?_)
      rw [if_pos (by omega)]
      refine asR1 h2 (asR2 h2 ?_)
      have e1 : w64 ((j : Int) + 1) = ((j + 1 : Nat) : Int) := by rw [w64_in (by omega) (by omega)]; omega
      simp only [lt, e1]
      by_cases ee : a[j] = b[j]
      · rw [if_neg (by rw [ee]; simp)]
        refine hk _ ⟨j + 1, by omega, rfl, ?_⟩ ?_
        · rw [List.take_succ_eq_append_getElem h1, List.take_succ_eq_append_getElem h2, hall, ee]
        · show a.length - ((j + 1 : Nat) : Int).toNat < a.length - ((j : Nat) : Int).toNat
          omega
      · rw [if_pos (by
          simp only [Bool.not_eq_true', Bool.and_true, Bool.and_eq_false_iff, beq_eq_false_iff_ne, ne_eq]
          by_cases q : (a[j]).1 = (b[j]).1
          · exact .inr fun q2 => ee (Prod.ext q q2)
          · exact .inl q)]
        have : (a == b) = false := by
          rw [beq_eq_false_iff_ne]; intro hh; subst hh; exact ee rfl
        rw [this] at h; exact h
  · rw [if_pos (by simp; omega)]
    have : (a == b) = false := by
      rw [beq_eq_false_iff_ne]; intro hh; exact e (by rw [hh])
    rw [this] at h; exact h
theorem sEqT (a b : List Ty) (hl : a.length ≤ 100000) (hb : b.length ≤ 100000) {K : Bool → Prop} (h : K (a == b)) : Xslices_Equal___api_Type_api_Type_ (TV a) (TV b) K := by
  unfold Xslices_Equal___api_Type_api_Type_ Yslices_Equal___api_Type_api_Type_
  rw [TV_len, TV_len]
  by_cases e : a.length = b.length
  · rw [if_neg (by simp [e])]
    refine lp_ind (fun x => a.length - x.1.2.2.2.2.1.toNat) (fun x => ∃ j : Nat, j ≤ a.length ∧ x = ((TV a, TV b, false, (a.length : Int), (j : Int), ()), ()) ∧ a.take j = b.take j) ?_ ⟨0, by omega, rfl, rfl⟩
    rintro x ⟨j, hj, rfl, hall⟩ k hk
    unfold Lslices_Equal___api_Type_api_Type__0
    simp only [decide_eq_true_eq, TV_len]
    by_cases ej : j = a.length
    · rw [if_neg (by omega)]
      rw [ej, List.take_length, e, List.take_length] at hall
      have : (a == b) = true := by rw [hall]; exact beq_self_eq_true _
      rw [this] at h; exact h
    · have h1 : j < a.length := by omega
      have h2 : j < b.length := by omega
      rw [Int.toNat_natCast, if_pos (by omega), if_pos (by omega)]
      refine asT1 h1 (asT2 h1 (asT3 h1 ?_))
      rw [if_pos (by omega)]
      refine asT1 h2 (asT2 h2 (asT3 h2 ?_))
      have e1 : w64 ((j : Int) + 1) = ((j + 1 : Nat) : Int) := by rw [w64_in (by omega) (by omega)]; omega
      simp only [lt, e1, S_toList]
      by_cases ee : a[j] = b[j]
      · rw [if_neg (by rw [ee]; simp)]
        refine hk _ ⟨j + 1, by omega, rfl, ?_⟩ ?_
        · rw [List.take_succ_eq_append_getElem h1, List.take_succ_eq_append_getElem h2, hall, ee]
        · show a.length - ((j + 1 : Nat) : Int).toNat < a.length - ((j : Nat) : Int).toNat
          omega
      · rw [if_pos (by
          simp only [Bool.not_eq_true', Bool.and_true, Bool.and_eq_false_iff, beq_eq_false_iff_ne, ne_eq]
          by_cases q : (a[j]).1 = (b[j]).1
          · by_cases q3 : (a[j]).2.1 = (b[j]).2.1
            · exact .inr (.inr fun q2 => ee (Prod.ext q (Prod.ext q3 q2)))
            · exact .inr (.inl q3)
          · exact .inl q)]
        have : (a == b) = false := by
          rw [beq_eq_false_iff_ne]; intro hh; subst hh; exact ee rfl
        rw [this] at h; exact h
  · rw [if_pos (by simp; omega)]
    have : (a == b) = false := by
      rw [beq_eq_false_iff_ne]; intro hh; exact e (by rw [hh])
    rw [this] at h; exact h
def sameZ (a b : Zn) : Bool := a.ty == b.ty && a.tr == b.tr && a.lp == b.lp && a.ft == b.ft && a.v == b.v
theorem zSame (a b : Zn) (ha : ZI a) (hb : ZI b) {K : Bool → Prop} (h : K (sameZ a b)) : Xzone_Same (tupZ a) (tupZ b) K := by
  show Xzone_Same (TV a.ty, RV a.tr, RV a.lp, S a.ft, a.v, ()) (TV b.ty, RV b.tr, RV b.lp, S b.ft, b.v, ()) K
  unfold Xzone_Same Yzone_Same
  dsimp only
  unfold sameZ at h
  refine sEqT a.ty b.ty (by have := ha.ty; omega) (by have := hb.ty; omega) ?_
  cases e1 : a.ty == b.ty
  · rw [e1] at h; rw [if_neg (by simp)]; simpa using h
  rw [e1] at h; rw [if_pos rfl]
  refine sEqR1 a.tr b.tr (by have := ha.tr; omega) (by have := hb.tr; omega) ?_
  cases e2 : a.tr == b.tr
  · rw [e2] at h; rw [if_neg (by simp)]; simpa using h
  rw [e2] at h; rw [if_pos rfl]
  refine sEqR2 a.lp b.lp (by have := ha.lp; omega) (by have := hb.lp; omega) ?_
  cases e3 : a.lp == b.lp
  · rw [e3] at h; rw [if_neg (by simp)]; simpa using h
  rw [e3] at h; rw [if_pos rfl, S_toList, S_toList]
  cases e4 : a.ft == b.ft
  · rw [e4] at h; rw [if_neg (by simp)]; simpa using h
  rw [e4] at h; rw [if_pos rfl]
  simpa using h
theorem sFew (z : Zn) (hl : z.ty.length ≤ 9223372036854775807) {K : Bool → Prop} (h1 : (z.ty.length ≤ 100 ∧ z.tr.length ≤ 300 ∧ z.lp.length ≤ 300 ∧ z.ft.length ≤ 200 ∧ (∀ t ∈ z.ty, t.2.2.length ≤ 100)) → K true) (h2 : K false) : Xepactlaw16_Few (tupZ z) K := by
  show Xepactlaw16_Few (TV z.ty, RV z.tr, RV z.lp, S z.ft, z.v, ()) K
  unfold Xepactlaw16_Few Yepactlaw16_Few
  have fin : (∀ i (h : i < z.ty.length), i < 100 → ((z.ty[i]).2.2).length ≤ 100) → (if decide ((z.ty.length : Int) ≤ 100) = true then (if decide ((z.tr.length : Int) ≤ 300) = true then (if decide ((z.lp.length : Int) ≤ 300) = true then K (decide (((S z.ft).size : Int) ≤ 200)) else K false) else K false) else K false) := fun hall => by
    rw [S_size]
    by_cases c1 : (z.ty.length : Int) ≤ 100
    · rw [if_pos (decide_eq_true c1)]
      by_cases c2 : (z.tr.length : Int) ≤ 300
      · rw [if_pos (decide_eq_true c2)]
        by_cases c3 : (z.lp.length : Int) ≤ 300
        · rw [if_pos (decide_eq_true c3)]
          by_cases c4 : (z.ft.length : Int) ≤ 200
          · rw [decide_eq_true c4]
            refine h1 ⟨by omega, by omega, by omega, by omega, fun t ht => ?_⟩
            obtain ⟨i, hi, rfl⟩ := List.getElem_of_mem ht
            exact hall i hi (by omega)
          · rw [decide_eq_false c4]; exact h2
        · rw [if_neg (by simpa using c3)]; exact h2
      · rw [if_neg (by simpa using c2)]; exact h2
    · rw [if_neg (by simpa using c1)]; exact h2
  refine lp_ind (fun x => 101 - x.1.2.2.1.toNat) (fun x => ∃ j : Nat, j ≤ 100 ∧ j ≤ z.ty.length ∧ x = (((), false, (j : Int), ()), (TV z.ty, RV z.tr, RV z.lp, S z.ft, z.v, ()), ()) ∧ (∀ i (h : i < z.ty.length), i < j → ((z.ty[i]).2.2).length ≤ 100)) ?_ ⟨0, by omega, by omega, rfl, fun i h hi => by omega⟩
  rintro x ⟨j, hj, hj2, rfl, hall⟩ k hk
  unfold Lepactlaw16_Few_0
  dsimp only
  rw [TV_len, RV_len, RV_len]
  by_cases c1 : (j : Int) < (z.ty.length : Int)
  · rw [if_pos (decide_eq_true c1)]
    by_cases c2 : (j : Int) < 100
    · rw [if_pos (decide_eq_true c2), if_pos (by omega), Int.toNat_natCast]
      have hj' : j < z.ty.length := by omega
      refine asT3 hj' ?_
      rw [S_size]
      by_cases c3 : (((z.ty[j]).2.2).length : Int) > 100
      · rw [if_pos (decide_eq_true c3)]; exact h2
      · rw [if_neg (by simpa using c3)]
        have e1 : w64 ((j : Int) + 1) = ((j + 1 : Nat) : Int) := by rw [w64_in (by omega) (by omega)]; omega
        rw [e1]
        refine hk _ ⟨j + 1, by omega, by omega, rfl, fun i hi hij => ?_⟩ ?_
        · by_cases ei : i = j
          · subst ei; omega
          · exact hall i hi (by omega)
        · show 101 - ((j + 1 : Nat) : Int).toNat < 101 - ((j : Nat) : Int).toNat
          omega
    · rw [if_neg (by simpa using c2)]
      exact fin fun i hi h100 => hall i hi (by omega)
  · rw [if_neg (by simpa using c1)]
    exact fin fun i hi h100 => hall i hi (by omega)
end Go.Proofs.YtbnpclndiichcaaGreatDoor
end
section
set_option linter.unusedVariables false
set_option linter.unusedSimpArgs false
namespace Go.Proofs.YtbnpclndiichcaaGreatDoor
open Go Go.Proofs.YtbnpclndiichcaaGreatDoor.Eng Go.Proofs.YtbnpclndiichcaaGreatDoor.Pl
set_option linter.unusedVariables false
set_option linter.unusedSimpArgs false
set_option maxRecDepth 100000
set_option maxHeartbeats 2000000
def zA : Zn := ⟨[(-18000, false, [69, 83, 84]), (-14400, true, [69, 68, 84])], [(100, 1), (200, 0)], [], [69, 83, 84, 53, 69, 68, 84, 44, 77, 51, 46, 50, 46, 48, 44, 77, 49, 49, 46, 49, 46, 48], 2⟩
def zB : Zn := ⟨[(-18000, false, [69, 83, 84]), (-14400, true, [69, 68, 84])], [(100, 1), (200, 0)], [], [], 2⟩
def zC : Zn := ⟨[(-18000, false, [69, 83, 84]), (-14400, true, [69, 68, 84])], [(100, 1), (200, 0)], [], [69, 83, 84, 53, 69, 68, 84, 44, 77, 51, 46, 50, 46, 48, 47, 45, 49, 44, 77, 49, 49, 46, 49, 46, 48], 2⟩
def zD : Zn := ⟨[], [], [], [], 0⟩
def zE : Zn := ⟨[(-18000, false, [69, 83, 84]), (-14400, true, [69, 68, 84])], [(100, 1), (200, 0)], [(78796800, 1)], [], 2⟩
def zF : Zn := ⟨[(-18000, false, [69, 83, 84]), (-14400, true, [69, 68, 84])], [(5, 1), (200, 0)], [], [69, 83, 84, 53, 69, 68, 84, 44, 77, 51, 46, 50, 46, 48, 44, 77, 49, 49, 46, 49, 46, 48], 2⟩
theorem iA : ZI zA := ⟨by decide, by decide, by decide, by decide, by decide, by unfold recI; decide, by unfold recI; decide, by decide⟩
theorem iB : ZI zB := ⟨by decide, by decide, by decide, by decide, by decide, by unfold recI; decide, by unfold recI; decide, by decide⟩
theorem iC : ZI zC := ⟨by decide, by decide, by decide, by decide, by decide, by unfold recI; decide, by unfold recI; decide, by decide⟩
theorem iD : ZI zD := ⟨by decide, by decide, by decide, by decide, by decide, by unfold recI; decide, by unfold recI; decide, by decide⟩
theorem iE : ZI zE := ⟨by decide, by decide, by decide, by decide, by decide, by unfold recI; decide, by unfold recI; decide, by decide⟩
theorem iF : ZI zF := ⟨by decide, by decide, by decide, by decide, by decide, by unfold recI; decide, by unfold recI; decide, by decide⟩
theorem rA : zoneRight zA = true := by kernel_rfl
theorem rB : zoneRight zB = true := by kernel_rfl
theorem rC : zoneRight zC = false := by kernel_rfl
theorem rD : zoneRight zD = false := by kernel_rfl
theorem rE : zoneRight zE = true := by kernel_rfl
theorem lA1 : lookZ zA 50 = (-18000, false, [69, 83, 84]) := by kernel_rfl
theorem lA2 : lookZ zA 150 = (-14400, true, [69, 68, 84]) := by kernel_rfl
theorem lA3 : lookZ zA 1710054000 = (-14400, true, [69, 68, 84]) := by kernel_rfl
theorem lB1 : lookZ zB 1710054000 = (-18000, false, [69, 83, 84]) := by kernel_rfl
theorem pE1 : posixR zE 78796800 = 78796799 := by kernel_rfl
theorem pE2 : posixR zE 78796799 = 78796799 := by kernel_rfl
theorem nA1 : indexN zA 99 = 0 := by kernel_rfl
theorem nA2 : indexN zA 100 = 1 := by kernel_rfl
theorem nA3 : indexN zA 300 = 2 := by kernel_rfl
theorem sF : sameZ zF zA = false := by kernel_rfl
theorem sA : sameZ zA zA = true := by kernel_rfl
theorem cT (a : List Ty) (hl : a.length ≤ 100000) {K : List V → Bool → Bool → Prop} (h : ∀ f, (f = true → a = []) → K (TV a) true f) : Xslices_Clone___api_Type_api_Type_ (TV a) K := by
  unfold Xslices_Clone___api_Type_api_Type_ Yslices_Clone___api_Type_api_Type_
  rw [TV_len, List.nil_append, Nat.zero_add]
  by_cases e : a.length = 0
  · have e0 : a = [] := List.length_eq_zero_iff.1 e
    rw [if_pos e, if_pos (room32 _ (by omega))]
    subst e0
    exact ⟨h true fun _ => rfl, h false fun _ => rfl⟩
  · rw [if_neg e, if_pos (room32 _ (by omega))]
    exact h false fun hh => by cases hh
theorem cR1 (a : List Rec) (hl : a.length ≤ 100000) {K : List V → Bool → Bool → Prop} (h : ∀ f, (f = true → a = []) → K (RV a) true f) : Xslices_Clone___api_Trans_api_Trans_ (RV a) K := by
  unfold Xslices_Clone___api_Trans_api_Trans_ Yslices_Clone___api_Trans_api_Trans_
  rw [RV_len, List.nil_append, Nat.zero_add]
  by_cases e : a.length = 0
  · have e0 : a = [] := List.length_eq_zero_iff.1 e
    rw [if_pos e, if_pos (room16 _ (by omega))]
    subst e0
    exact ⟨h true fun _ => rfl, h false fun _ => rfl⟩
  · rw [if_neg e, if_pos (room16 _ (by omega))]
    exact h false fun hh => by cases hh
theorem cR2 (a : List Rec) (hl : a.length ≤ 100000) {K : List V → Bool → Bool → Prop} (h : ∀ f, (f = true → a = []) → K (RV a) true f) : Xslices_Clone___api_Corr_api_Corr_ (RV a) K := by
  unfold Xslices_Clone___api_Corr_api_Corr_ Yslices_Clone___api_Corr_api_Corr_
  rw [RV_len, List.nil_append, Nat.zero_add]
  by_cases e : a.length = 0
  · have e0 : a = [] := List.length_eq_zero_iff.1 e
    rw [if_pos e, if_pos (room16 _ (by omega))]
    subst e0
    exact ⟨h true fun _ => rfl, h false fun _ => rfl⟩
  · rw [if_neg e, if_pos (room16 _ (by omega))]
    exact h false fun hh => by cases hh
theorem zCopy (z : Zn) (hz : ZI z) {K : Unit × Unit × Unit × ByteArray × Int × Unit → List V → Bool → Bool → List V → Bool → Bool → List V → Bool → Bool → Prop}
    (h : ∀ f g i, (g = true → z.tr = []) → K ((), (), (), S z.ft, z.v, ()) (TV z.ty) true f (RV z.tr) true g (RV z.lp) true i) : Xzone_Copy (tupZ z) K := by
  show Xzone_Copy (TV z.ty, RV z.tr, RV z.lp, S z.ft, z.v, ()) K
  unfold Xzone_Copy Yzone_Copy
  refine cT z.ty (by have := hz.ty; omega) fun f _ => ?_
  refine cR1 z.tr (by have := hz.tr; omega) fun g hg => ?_
  refine cR2 z.lp (by have := hz.lp; omega) fun i _ => ?_
  exact h f g i hg
theorem tyB (t : Ty) (o : Int) (d : Bool) (l : List UInt8) (h : t = (o, d, l)) : ((tupT t).1 == o && ((tupT t).2.1 == d && (ByteArray.toList (tupT t).2.2.1 == ByteArray.toList (ByteArray.mk l.toArray) && true))) = true := by
  subst h
  simp
theorem zsmall {K : Bool → Prop} (h : K true) : Xepactlaw19_small K := by
  unfold Xepactlaw19_small Yepactlaw19_small
  refine zCopy zA iA fun f g i hg => ?_
  have hg0 : g = false := by
    cases g
    · rfl
    · have := hg rfl; cases this
  subst hg0
  rw [if_neg (show ¬ ((((RV zA.tr).length : Nat) : Int) != 2) = true by rw [RV_len]; decide), if_pos (show (0 : Int) ≤ 0 ∧ 0 < (((RV zA.tr).length : Nat) : Int) by rw [RV_len]; decide), if_pos rfl, if_pos (show 0 < (RV zA.tr).length by rw [RV_len]; decide)]
  refine sRight zA iA ?_
  rw [rA, if_pos rfl]
  refine sRight zB iB ?_
  rw [rB, if_pos rfl]
  refine sRight zC iC ?_
  rw [rC, if_pos (show (!false) = true from rfl)]
  refine sRight zD iD ?_
  rw [rD, if_pos (show (!false) = true from rfl)]
  refine sRight zE iE ?_
  rw [rE, if_pos rfl]
  have hA : ZR zA := ⟨iA, rA⟩
  have hB : ZR zB := ⟨iB, rB⟩
  have hE : ZR zE := ⟨iE, rE⟩
  refine zIndex zA iA hA.st 99 ?_
  rw [nA1, if_pos (by decide)]
  refine zIndex zA iA hA.st 100 ?_
  rw [nA2, if_pos (by decide)]
  refine zIndex zA iA hA.st 300 ?_
  rw [nA3, if_pos (by decide)]
  refine zLookup zA hA 50 ?_
  simp only [lt]
  rw [if_pos (tyB _ _ _ _ lA1)]
  refine zLookup zA hA 150 ?_
  rw [if_pos (tyB _ _ _ _ lA2)]
  refine dup_of ?_
  refine zLookup zA hA 1710054000 ?_
  rw [if_pos (tyB _ _ _ _ lA3)]
  refine zLookup zB hB 1710054000 ?_
  rw [if_pos (tyB _ _ _ _ lB1)]
  refine zPosix zE hE 78796800 ?_
  rw [pE1, if_pos (by decide)]
  refine zPosix zE hE 78796799 ?_
  rw [pE2, if_pos (by decide)]
  refine zSame zF zA iF iA ?_
  rw [sF, if_pos (show (!false) = true from rfl)]
  refine zCopy zA iA fun f g i hg => ?_
  refine zSame zA zA iA iA ?_
  rw [sA]
  exact h
end Go.Proofs.YtbnpclndiichcaaGreatDoor
end
section
set_option linter.unusedVariables false
set_option linter.unusedSimpArgs false
namespace Go.Proofs.YtbnpclndiichcaaGreatDoor
open Go Go.Proofs.YtbnpclndiichcaaGreatDoor.Eng Go.Proofs.YtbnpclndiichcaaGreatDoor.Pl
set_option linter.unusedVariables false
set_option linter.unusedSimpArgs false
set_option maxRecDepth 100000
set_option maxHeartbeats 2000000
structure ZG (z : Zn) : Prop where
  ri : recI z.lp
  ti : recI z.tr
  v : i64r z.v
  tl : z.ty.length ≤ 9223372036854775807
theorem ZG.zi {z : Zn} (h : ZG z) (hf : z.ty.length ≤ 100 ∧ z.tr.length ≤ 300 ∧ z.lp.length ≤ 300 ∧ z.ft.length ≤ 200 ∧ (∀ t ∈ z.ty, t.2.2.length ≤ 100)) : ZI z :=
  ⟨hf.1, by omega, hf.2.2.1, by omega, hf.2.2.2.2, h.ri, h.ti, h.v⟩
end Go.Proofs.YtbnpclndiichcaaGreatDoor
end
section
set_option linter.unusedVariables false
set_option linter.unusedSimpArgs false
namespace Go.Proofs.YtbnpclndiichcaaGreatDoor
open Go Go.Proofs.YtbnpclndiichcaaGreatDoor.Eng Go.Proofs.YtbnpclndiichcaaGreatDoor.Pl
set_option linter.unusedVariables false
set_option linter.unusedSimpArgs false
set_option maxRecDepth 100000
set_option maxHeartbeats 2000000
/-- The sum behind so many records. -/
def sm (l : List Rec) (m : Nat) : Int := if m = 0 then 0 else (l.getD (m - 1) (0, 0)).2
end Go.Proofs.YtbnpclndiichcaaGreatDoor
end
section
set_option linter.unusedVariables false
set_option linter.unusedSimpArgs false
namespace Go.Proofs.YtbnpclndiichcaaGreatDoor
open Go Go.Proofs.YtbnpclndiichcaaGreatDoor.Eng Go.Proofs.YtbnpclndiichcaaGreatDoor.Pl
set_option linter.unusedVariables false
set_option linter.unusedSimpArgs false
set_option maxRecDepth 100000
set_option maxHeartbeats 4000000
theorem room1 (n : Nat) (h : n ≤ 1000000000) : roomOk n 1 = true := by
  unfold roomOk; simp only [decide_eq_true_eq]; omega
theorem B8_app (a b : List UInt8) : B8 a ++ B8 b = B8 (a ++ b) := by simp [B8]
theorem tMay (k : Nat) (hk : k = 1 ∨ k = 4 ∨ k = 8) (n : Int) (hn : k = 8 → i64r n) {K : Bool → Prop} (h : K (fits k n)) : Xoctet_may n (k : Int) K := by
  unfold Xoctet_may Yoctet_may
  unfold fits at h
  unfold i64r at hn
  rcases hk with rfl | rfl | rfl
  · rw [if_pos (by decide)]
    rw [if_pos rfl] at h
    have e : w64 (wu8 n) = n % 256 := by rw [wu8_mod, w64_in (by omega) (by omega)]
    have e2 : (n == w64 (wu8 n)) = decide (0 ≤ n ∧ n < 256) := by
      rw [e, Bool.eq_iff_iff, beq_iff_eq, decide_eq_true_eq]; omega
    rw [e2]; exact h
  · rw [if_neg (by decide), if_pos (by decide)]
    rw [if_neg (by decide)] at h
    have hw : -2147483648 ≤ wi32 n ∧ wi32 n ≤ 2147483647 := by
      simp only [wi32, IntKind.wrap, IntKind.bits, IntKind.signed]
      simp
      split <;> omega
    have e := wi32_in n
    rw [w64_in (n := wi32 n) (by omega) (by omega)]
    by_cases c : wi32 n = n
    · rw [if_neg (by simp [c])]
      have := e.1 c
      rw [show decide (-((256 : Int) ^ 4 / 2) ≤ n ∧ n < (256 : Int) ^ 4 / 2) = true by rw [decide_eq_true_eq]; omega] at h
      exact h
    · rw [if_pos (by simpa using fun q : n = wi32 n => c q.symm)]
      have : ¬ (-2147483648 ≤ n ∧ n ≤ 2147483647) := fun q => c (e.2 q)
      rw [show decide (-((256 : Int) ^ 4 / 2) ≤ n ∧ n < (256 : Int) ^ 4 / 2) = false by rw [decide_eq_false_iff_not]; omega] at h
      exact h
  · rw [if_neg (by decide), if_neg (by decide), if_pos (by decide)]
    have hn := hn rfl
    rw [if_neg (by decide), show decide (-((256 : Int) ^ 8 / 2) ≤ n ∧ n < (256 : Int) ^ 8 / 2) = true by rw [decide_eq_true_eq]; omega] at h
    exact h
theorem tClone (l : List UInt8) (hl : l.length ≤ 100000000) {K : List V → Bool → Bool → Prop} (h : ∀ f, K (B8 l) true f) : Xslices_Clone___byte_byte_ (B8 l) K := by
  unfold Xslices_Clone___byte_byte_ Yslices_Clone___byte_byte_
  rw [B8_len, List.nil_append, Nat.zero_add, if_pos (room1 _ (by omega))]
  by_cases e : l.length = 0
  · have e0 : l = [] := List.length_eq_zero_iff.1 e
    subst e0
    rw [if_pos (show ([] : List UInt8).length = 0 from rfl)]
    exact ⟨h _, h _⟩
  · rw [if_neg e]; exact h _
theorem tPut (l : List UInt8) (hl : l.length ≤ 10000000) (k : Nat) (hk : k = 1 ∨ k = 4 ∨ k = 8) (n : Int) (hn : k = 8 → i64r n) {K : Bool → List V → Bool → Bool → Prop}
    (h : ∀ f, K (fits k n) (B8 (l ++ if fits k n = true then be k n else [])) true f) : Xoctet_Put (B8 l) n (k : Int) K := by
  unfold Xoctet_Put Yoctet_Put
  refine tClone l (by omega) fun f => ?_
  refine tMay k hk n hn ?_
  cases hf : fits k n
  · rw [if_pos (by rfl)]
    have := h f
    rw [hf] at this; simpa using this
  rw [if_neg (by simp)]
  rw [hf] at h
  refine lp_ind (fun x => x.1.2.2.2.2.1.toNat) (fun x => ∃ (m : Nat) (pre : List UInt8), m ≤ k ∧ pre ++ be m n = be k n ∧ x = ((n, (), false, (), (m : Int), ()), (B8 (l ++ pre), true, f), ())) ?_ ⟨k, [], Nat.le_refl _, rfl, by simp⟩
  rintro x ⟨m, pre, hm, hp, rfl⟩ k' hk'
  unfold Loctet_Put_0
  dsimp only
  have hlen := congrArg List.length hp
  rw [List.length_append, be_len, be_len] at hlen
  cases m with
  | zero =>
    rw [if_neg (dneg (by omega))]
    rw [be, List.append_nil] at hp
    have := h f
    rw [if_pos rfl, ← hp] at this
    exact this
  | succ m =>
    rw [if_pos (decide_eq_true (by omega))]
    have e1 : w64 (((m + 1 : Nat) : Int) - 1) = (m : Int) := by rw [w64_in (by omega) (by omega)]; omega
    have e2 : w64 (8 * (m : Int)) = 8 * (m : Int) := w64_in (by omega) (by omega)
    simp only [lt, e1, e2]
    rw [if_neg (by omega), if_pos trivial, put_byte n m (by omega), if_pos (room1 _ (by rw [B8_len]; simp; omega))]
    refine hk' _ ⟨m, pre ++ [UInt8.ofNat ((n / (256 : Int) ^ m) % 256).toNat], by omega, ?_, ?_⟩ (by show (m : Int).toNat < ((m + 1 : Nat) : Int).toNat; omega)
    · rw [← hp, be]; simp
    · rw [← List.append_assoc]
      simp [B8]
theorem tWrite (n : Int) (k : Nat) (hn : k = 8 → i64r n) (hk : k = 1 ∨ k = 4 ∨ k = 8) (bad : Bool) (l : List UInt8) (hl : l.length ≤ 10000000) (f : Bool) {K : Bool → List V → Bool → Bool → Prop}
    (h : K (bad || !fits k n) (B8 (l ++ if fits k n = true then be k n else [])) true f) : Xblock_writer_put_1 n (k : Int) bad (B8 l) true f K := by
  unfold Xblock_writer_put_1 Yblock_writer_put_1
  refine tPut [] (by simp) k hk n hn fun f' => ?_
  rw [List.nil_append]
  have hl2 : (if fits k n = true then be k n else []).length ≤ 8 := by
    split
    · rw [be_len]; omega
    · simp
  rw [if_pos rfl, if_pos (room1 _ (by rw [B8_len, B8_len]; omega)), B8_app]
  cases bad
  · rw [if_neg (by simp)]; simpa using h
  · rw [if_pos rfl]; simpa using h
end Go.Proofs.YtbnpclndiichcaaGreatDoor
end
section
set_option linter.unusedVariables false
set_option linter.unusedSimpArgs false
namespace Go.Proofs.YtbnpclndiichcaaGreatDoor
open Go Go.Proofs.YtbnpclndiichcaaGreatDoor.Eng Go.Proofs.YtbnpclndiichcaaGreatDoor.Pl
set_option linter.unusedVariables false
set_option linter.unusedSimpArgs false
set_option maxRecDepth 100000
set_option maxHeartbeats 4000000
theorem B8_cut (l : List UInt8) (a n : Nat) : cutL (B8 l) a n = B8 ((l.drop a).take n) := by simp [cutL, B8]
theorem tOpen (l : List UInt8) (hl : l.length ≤ 100000000) {K : Bool → List V → Bool → Bool → Prop} (h : ∀ f, K false (B8 l) true f) : Xoctet_Open (B8 l) K := by
  unfold Xoctet_Open Yoctet_Open
  exact tClone l hl fun f => h f
theorem lp_stopN {α : Type} {F : (α → Prop) → α → Prop} {x : α} (h : ∀ k, F k x) : Eng.lp F x := (lp_ind (fun _ => 0) (fun y => y = x) (fun y hy k _ => hy ▸ h k) rfl)
theorem tTake (n : Nat) (bad : Bool) (l : List UInt8) (hl : l.length ≤ 100000000) (o f : Bool) {K : Bool → List V → Bool → Bool → List V → Bool → Bool → Prop}
    (h : bad = false → n ≤ l.length → ∀ f', K false (B8 (l.take n)) true f' (B8 (l.drop n)) false true) (h' : (bad = true ∨ l.length < n) → K true [] true true [] true true) : Xoctet_Reader_Take (n : Int) bad (B8 l) o f K := by
  unfold Xoctet_Reader_Take Yoctet_Reader_Take
  cases bad
  · rw [if_neg (by simp), if_neg (dneg (by omega)), B8_len]
    by_cases e : l.length < n
    · rw [if_pos (decide_eq_true (by omega))]; exact h' (.inr e)
    · rw [if_neg (dneg (by omega)), if_pos (by omega), if_pos (by omega), Int.toNat_natCast, Int.toNat_natCast, B8_cut, B8_cut, List.drop_zero, Nat.sub_zero]
      refine tClone _ (by rw [List.length_take]; omega) fun f' => ?_
      have e9 : List.take (l.length - n) (l.drop n) = l.drop n := List.take_of_length_le (by rw [List.length_drop]; omega)
      rw [if_pos (by omega), if_pos (by omega), e9]
      exact h rfl (by omega) f'
  · rw [if_pos rfl]; exact h' (.inl rfl)
theorem tNum (k : Nat) (hk : k = 1 ∨ k = 4 ∨ k = 8) (bad : Bool) (l : List UInt8) (hl : l.length ≤ 100000000) (o f : Bool) {K : Int → Bool → List V → Bool → Bool → Prop}
    (h : bad = false → k ≤ l.length → K (numB (l.take k)) false (B8 (l.drop k)) false true) (h' : (bad = true ∨ l.length < k) → K 0 true [] true true) : Xoctet_Reader_Num (k : Int) bad (B8 l) o f K := by
  unfold Xoctet_Reader_Num Yoctet_Reader_Num
  refine tMay k hk 0 (fun _ => ⟨by decide, by decide⟩) ?_
  have hf : fits k 0 = true := by rcases hk with rfl | rfl | rfl <;> decide
  rw [hf, if_neg (by simp)]
  refine tTake k bad l hl o f (fun hb hn f' => ?_) fun hb => ?_
  · have hd : (l.take k).length = k := by rw [List.length_take]; omega
    have h := h hb hn
    rw [← acc_num hk hd] at h
    generalize l.take k = d at *
    rw [B8_len]
    refine lp_ind (fun x => d.length - x.1.2.2.2.2.1.toNat) (fun x => ∃ j : Nat, j ≤ d.length ∧ x = (((k : Int), accN k (d.take j), (), (d.length : Int), (j : Int), ()), ((), false, ()), (B8 (l.drop k), false, true), (B8 d, true, f'), ())) ?_ ⟨0, by omega, by rw [List.take_zero, acc_nil]; rfl⟩
    rintro x ⟨j, hj, rfl⟩ k' hk'
    unfold Loctet_Reader_Num_0
    dsimp only
    rw [B8_len, Int.toNat_natCast]
    by_cases e : j < d.length
    · have e1 : w64 ((j : Int) + 1) = ((j + 1 : Nat) : Int) := by rw [w64_in (by omega) (by omega)]; omega
      rw [if_pos (decide_eq_true (by omega)), if_pos (by omega), e1]
      refine asB8 e ?_
      have ht : d.take (j + 1) = d.take j ++ [d[j]] := List.take_succ_eq_append_getElem e
      have hlt : (d.take j).length = j := by rw [List.length_take]; omega
      have hgo : ∀ v, v = accN k (d.take (j + 1)) → k' (((k : Int), v, (), (d.length : Int), ((j + 1 : Nat) : Int), ()), ((), false, ()), (B8 (l.drop k), false, true), (B8 d, true, f'), ()) := fun v hv => by
        rw [hv]
        exact hk' _ ⟨j + 1, e, rfl⟩ (by show d.length - ((j + 1 : Nat) : Int).toNat < d.length - ((j : Nat) : Int).toNat; omega)
      by_cases j0 : j = 0
      · rw [if_pos (by simp [j0])]
        by_cases k4 : k = 4
        · rw [if_pos (by simp [k4])]
          refine hgo _ ?_
          subst j0 k4
          rw [ht, List.take_zero, List.nil_append]
          exact acc_first4 _
        · rw [if_neg (by simp; omega)]
          simp only [lt]
          refine hgo _ ?_
          rw [or_byte _ _ (d[j]).toNat_lt, ht]
          exact acc_step hk (by omega) (fun q => absurd q k4)
      · rw [if_neg (by simp; omega)]
        simp only [lt]
        refine hgo _ ?_
        rw [or_byte _ _ (d[j]).toNat_lt, ht]
        exact acc_step hk (by omega) (fun q q2 => by rw [q2] at hlt; simp at hlt; omega)
    · have : j = d.length := by omega
      subst this
      rw [if_neg (dneg (by omega))]
      rw [List.take_length]
      exact h
  · refine lp_stopN fun k' => ?_
    unfold Loctet_Reader_Num_0
    dsimp only
    rw [if_neg (by simp)]
    exact h' hb
theorem tTake1 (n : Nat) (bad : Bool) (l : List UInt8) (hl : l.length ≤ 100000000) {K : Bool → List V → Bool → Bool → List V → Bool → Bool → Prop}
    (h : bad = false → n ≤ l.length → ∀ f', K false (B8 (l.take n)) true f' (B8 (l.drop n)) false true) (h' : (bad = true ∨ l.length < n) → K true [] true true [] true true) : Xoctet_Reader_Take_1 (n : Int) (B8 l) bad K := by
  unfold Xoctet_Reader_Take_1 Yoctet_Reader_Take_1
  cases bad
  · rw [if_neg (by simp), if_neg (dneg (by omega)), B8_len]
    by_cases e : l.length < n
    · rw [if_pos (decide_eq_true (by omega))]; exact h' (.inr e)
    · rw [if_neg (dneg (by omega)), if_pos (by omega), if_pos (by omega), Int.toNat_natCast, Int.toNat_natCast, B8_cut, B8_cut, List.drop_zero, Nat.sub_zero]
      refine tClone _ (by rw [List.length_take]; omega) fun f' => ?_
      have e9 : List.take (l.length - n) (l.drop n) = l.drop n := List.take_of_length_le (by rw [List.length_drop]; omega)
      rw [if_pos (by omega), if_pos (by omega), e9]
      exact h rfl (by omega) f'
  · rw [if_pos rfl]; exact h' (.inl rfl)
theorem tNum1 (k : Nat) (hk : k = 1 ∨ k = 4 ∨ k = 8) (bad : Bool) (l : List UInt8) (hl : l.length ≤ 100000000) {K : Int → Bool → List V → Bool → Bool → Prop}
    (h : bad = false → k ≤ l.length → K (numB (l.take k)) false (B8 (l.drop k)) false true) (h' : (bad = true ∨ l.length < k) → K 0 true [] true true) : Xoctet_Reader_Num_1 (k : Int) (B8 l) bad K := by
  unfold Xoctet_Reader_Num_1 Yoctet_Reader_Num_1
  refine tMay k hk 0 (fun _ => ⟨by decide, by decide⟩) ?_
  have hf : fits k 0 = true := by rcases hk with rfl | rfl | rfl <;> decide
  rw [hf, if_neg (by simp)]
  refine tTake1 k bad l hl (fun hb hn f' => ?_) fun hb => ?_
  · have hd : (l.take k).length = k := by rw [List.length_take]; omega
    have h := h hb hn
    rw [← acc_num hk hd] at h
    generalize l.take k = d at *
    rw [B8_len]
    refine lp_ind (fun x => d.length - x.1.2.2.2.2.1.toNat) (fun x => ∃ j : Nat, j ≤ d.length ∧ x = (((k : Int), accN k (d.take j), (), (d.length : Int), (j : Int), ()), ((), false, ()), (B8 (l.drop k), false, true), (B8 d, true, f'), ())) ?_ ⟨0, by omega, by rw [List.take_zero, acc_nil]; rfl⟩
    rintro x ⟨j, hj, rfl⟩ k' hk'
    unfold Loctet_Reader_Num_1_0
    dsimp only
    rw [B8_len, Int.toNat_natCast]
    by_cases e : j < d.length
    · have e1 : w64 ((j : Int) + 1) = ((j + 1 : Nat) : Int) := by rw [w64_in (by omega) (by omega)]; omega
      rw [if_pos (decide_eq_true (by omega)), if_pos (by omega), e1]
      refine asB8 e ?_
      have ht : d.take (j + 1) = d.take j ++ [d[j]] := List.take_succ_eq_append_getElem e
      have hlt : (d.take j).length = j := by rw [List.length_take]; omega
      have hgo : ∀ v, v = accN k (d.take (j + 1)) → k' (((k : Int), v, (), (d.length : Int), ((j + 1 : Nat) : Int), ()), ((), false, ()), (B8 (l.drop k), false, true), (B8 d, true, f'), ()) := fun v hv => by
        rw [hv]
        exact hk' _ ⟨j + 1, e, rfl⟩ (by show d.length - ((j + 1 : Nat) : Int).toNat < d.length - ((j : Nat) : Int).toNat; omega)
      by_cases j0 : j = 0
      · rw [if_pos (by simp [j0])]
        by_cases k4 : k = 4
        · rw [if_pos (by simp [k4])]
          refine hgo _ ?_
          subst j0 k4
          rw [ht, List.take_zero, List.nil_append]
          exact acc_first4 _
        · rw [if_neg (by simp; omega)]
          simp only [lt]
          refine hgo _ ?_
          rw [or_byte _ _ (d[j]).toNat_lt, ht]
          exact acc_step hk (by omega) (fun q => absurd q k4)
      · rw [if_neg (by simp; omega)]
        simp only [lt]
        refine hgo _ ?_
        rw [or_byte _ _ (d[j]).toNat_lt, ht]
        exact acc_step hk (by omega) (fun q q2 => by rw [q2] at hlt; simp at hlt; omega)
    · have : j = d.length := by omega
      subst this
      rw [if_neg (dneg (by omega))]
      rw [List.take_length]
      exact h
  · refine lp_stopN fun k' => ?_
    unfold Loctet_Reader_Num_1_0
    dsimp only
    rw [if_neg (by simp)]
    exact h' hb
end Go.Proofs.YtbnpclndiichcaaGreatDoor
end
section
set_option linter.unusedVariables false
set_option linter.unusedSimpArgs false
namespace Go.Proofs.YtbnpclndiichcaaGreatDoor
open Go Go.Proofs.YtbnpclndiichcaaGreatDoor.Eng Go.Proofs.YtbnpclndiichcaaGreatDoor.Pl
set_option linter.unusedVariables false
set_option linter.unusedSimpArgs false
set_option maxRecDepth 100000
set_option maxHeartbeats 4000000
def NI (ns : List Int) : List V := ns.map fun n => .c (.int .i64 n)
theorem NI_len (ns : List Int) : (NI ns).length = ns.length := by simp [NI]
theorem asNI {ns : List Int} {i : Nat} (h : i < ns.length) {F : Prop} {K : Int → Prop} (hk : K ns[i]) : Eng.asInt .i64 (getC (NI ns) i 0) F K := by
  have : getC (NI ns) i 0 = some (.c (.int .i64 ns[i])) := by simp [getC, NI, V.cells, h]
  rw [this]; simpa [Eng.asInt] using hk
theorem tPool (l : List (List UInt8)) (hl : l.length ≤ 1000) (hs : ∀ s ∈ l, s.length ≤ 10000) {K : ByteArray → Bool → List V → Bool → Bool → Prop}
    (h : ∀ o z, (l.all abbrL && decide (poolN [] l ≤ 256)) = true → K (S (poolL l).1) true (NI ((poolL l).2.map fun n : Nat => (n : Int))) o z)
    (h' : (l.all abbrL && decide (poolN [] l ≤ 256)) = false → ∀ p at' o z, K p false at' o z) : Xabbr_Pool (NV l) K := by
  unfold Xabbr_Pool Yabbr_Pool
  rw [NV_len]
  refine lp_ind (fun x => l.length - x.1.2.2.2.2.2.2.1.toNat) (fun x => ∃ (j : Nat) (p : List UInt8) (hd : List (List UInt8 × Nat)) (at' : List Nat), j ≤ l.length ∧ x = ((S p, (), false, (), NV l, (l.length : Int), (j : Int), ()), hadM (hd.map fun x => (x.1, (x.2 : Int))), NI (at'.map fun n : Nat => (n : Int)), ()) ∧
    (l.take j).all abbrL = true ∧ p.length + poolN (hd.map (·.1)) (l.drop j) = poolN [] l ∧ at'.length = j ∧ poolL l = ((poolG p hd (l.drop j)).1, at' ++ (poolG p hd (l.drop j)).2)) ?_ ⟨0, [], [], [], by omega, rfl, rfl, by simp, rfl, rfl⟩
  rintro x ⟨j, p, hd, at', hj, rfl, hall, hp, hat, hpl⟩ k hk
  have hle := poolN_le l [] hs
  unfold Labbr_Pool_0
  simp only [decide_eq_true_eq, NV_len]
  by_cases e : j = l.length
  · rw [if_neg (by omega)]
    rw [e, List.take_length] at hall
    rw [e, List.drop_length] at hp
    have hp' : p.length = poolN [] l := by simpa [poolN] using hp
    by_cases h2 : ((S p).size : Int) > 256
    · rw [if_pos h2]
      rw [S_size] at h2
      exact h' (by rw [hall]; simp; omega) _ _ _ _
    · rw [if_neg h2]
      rw [S_size] at h2
      rw [e, List.drop_length] at hpl
      have hq := h
      rw [hpl] at hq
      simp only [poolG, List.append_nil] at hq
      exact hq _ _ (by rw [hall]; simp; omega)
  · have hj' : j < l.length := by omega
    rw [Int.toNat_natCast, if_pos (by omega), if_pos (by omega)]
    refine asN hj' ?_
    refine sabbr _ ?_
    have hd' : l.drop j = l[j] :: l.drop (j + 1) := List.drop_eq_getElem_cons hj'
    have ht : l.take (j + 1) = l.take j ++ [l[j]] := List.take_succ_eq_append_getElem hj'
    have hsl := hs l[j] (List.getElem_mem hj')
    have hmem := List.getElem_mem hj'
    rw [hd'] at hp hpl
    generalize l[j] = s at *
    cases ha : abbrL s
    · simp only [Bool.not_false, if_true]
      refine h' ?_ _ _ _ _
      have : l.all abbrL = false := by
        rw [Bool.eq_false_iff]; intro h; rw [List.all_eq_true.1 h s hmem] at ha; cases ha
      rw [this]; rfl
    · simp only [Bool.not_true, Bool.false_eq_true, if_false]
      rw [get_had, List.find?_map]
      have hall' : (l.take (j + 1)).all abbrL = true := by rw [ht, List.all_append, hall]; simp [ha]
      have e1 : w64 ((j : Int) + 1) = ((j + 1 : Nat) : Int) := by rw [w64_in (by omega) (by omega)]; omega
      have step : ∀ (p' : List UInt8) (hd2 : List (List UInt8 × Nat)) (v : Nat), p'.length + poolN (hd2.map (·.1)) (l.drop (j + 1)) = poolN [] l → poolL l = ((poolG p' hd2 (l.drop (j + 1))).1, at' ++ (v :: (poolG p' hd2 (l.drop (j + 1))).2)) → k ((S p', (), false, (), NV l, (l.length : Int), ((j + 1 : Nat) : Int), ()), hadM (hd2.map fun x => (x.1, (x.2 : Int))), NI (at'.map fun n : Nat => (n : Int)) ++ [.c (.int .i64 (v : Int))], ()) := fun p' hd2 v hq hq2 => by
        refine hk _ ⟨j + 1, p', hd2, at' ++ [v], by omega, by simp [NI], hall', hq, by simp [hat], by rw [hq2]; simp⟩ ?_
        show l.length - ((j + 1 : Nat) : Int).toNat < l.length - ((j : Nat) : Int).toNat
        omega
      rw [poolN] at hp
      rw [poolG] at hpl
      have hfe : (List.find? ((fun x : List UInt8 × Int => x.1 == s) ∘ fun x : List UInt8 × Nat => (x.1, (x.2 : Int))) hd) = hd.find? (fun x => x.1 == s) := rfl
      rw [hfe]
      cases hf : hd.find? (fun x => x.1 == s) with
      | none =>
        have hc : (hd.map (·.1)).contains s = false := by
          rw [Bool.eq_false_iff]
          intro hc
          rw [List.contains_iff_mem, List.mem_map] at hc
          obtain ⟨y, hy, hys⟩ := hc
          have := List.find?_eq_none.1 hf y hy
          simp [hys] at this
        rw [hc, if_neg (by simp)] at hp
        rw [hf] at hpl
        simp only [Option.map_none, Eng.asMpI, Bool.not_false, if_true, Option.isSome_some]
        have hps : p.length ≤ 100000000 := by omega
        rw [if_neg (by rw [S_size]; omega)]
        have es : S s ++ ByteArray.mk #[(0 : UInt8)] = S (s ++ [0]) := S_append s [0]
        rw [es, S_append, S_size, S_size, if_neg (by simp; omega)]
        simp only [lt]
        rw [if_pos (room8 _ (by rw [NI_len]; simp; omega)), put_had s _ _ (by rw [List.find?_map, hfe, hf]; rfl), e1]
        have hmap : (hd.map fun x : List UInt8 × Nat => (x.1, (x.2 : Int))) ++ [(s, (p.length : Int))] = (hd ++ [(s, p.length)]).map fun x => (x.1, (x.2 : Int)) := by simp
        rw [hmap]
        refine step (p ++ (s ++ [0])) (hd ++ [(s, p.length)]) p.length ?_ hpl
        rw [← hp, poolN_congr (l.drop (j + 1)) _ (s :: hd.map (·.1)) fun t => by
          rw [Bool.eq_iff_iff, List.contains_iff_mem, List.contains_iff_mem, List.map_append, List.mem_append, List.mem_cons]
          simp only [List.map_cons, List.map_nil, List.mem_singleton]
          exact ⟨fun h => h.symm, fun h => h.symm⟩]
        simp only [List.length_append, List.length_singleton]
        omega
      | some y =>
        have hy := List.find?_some hf
        have hc : (hd.map (·.1)).contains s = true := by
          rw [List.contains_iff_mem, List.mem_map]
          exact ⟨y, List.mem_of_find?_eq_some hf, by simpa using hy⟩
        rw [hc, if_pos rfl] at hp
        rw [hf] at hpl
        simp only [Option.map_some, Eng.asMpI, if_true, Bool.not_true, Bool.false_eq_true, if_false]
        rw [if_pos (room8 _ (by rw [NI_len]; simp; omega)), e1]
        exact step p hd _ hp hpl
end Go.Proofs.YtbnpclndiichcaaGreatDoor
end
section
set_option linter.unusedVariables false
set_option linter.unusedSimpArgs false
namespace Go.Proofs.YtbnpclndiichcaaGreatDoor
open Go Go.Proofs.YtbnpclndiichcaaGreatDoor.Eng Go.Proofs.YtbnpclndiichcaaGreatDoor.Pl
set_option linter.unusedVariables false
set_option linter.unusedSimpArgs false
set_option maxRecDepth 100000
set_option maxHeartbeats 4000000
theorem tpoolZ (z : Zn) (h : ZI z) {K : ByteArray → Bool → List V → Bool → Bool → Prop}
    (hk : ∀ o y, ((z.ty.map (·.2.2)).all abbrL && decide (poolN [] (z.ty.map (·.2.2)) ≤ 256)) = true → K (S (poolL (z.ty.map (·.2.2))).1) true (NI ((poolL (z.ty.map (·.2.2))).2.map fun n : Nat => (n : Int))) o y)
    (hk' : ((z.ty.map (·.2.2)).all abbrL && decide (poolN [] (z.ty.map (·.2.2)) ≤ 256)) = false → ∀ p at' o y, K p false at' o y) : Xblock_pool (tupZ z) K := by
  unfold Xblock_pool Yblock_pool
  simp only [tupZ_eq, TV_len]
  refine lp_at (fun j => ((ByteArray.mk #[], (), false, (), TV z.ty, (z.ty.length : Int), (j : Int), ()), NV ((z.ty.map (·.2.2)).take j), ())) z.ty.length rfl fun n hn k hkk => ?_
  unfold Lblock_pool_0
  simp only [decide_eq_true_eq, TV_len]
  by_cases e : n = z.ty.length
  · rw [if_neg (by omega), List.take_of_length_le (by simp; omega)]
    refine tPool _ (by have := h.ty; simp; omega) (fun s hs => ?_) hk hk'
    obtain ⟨t, ht, rfl⟩ := List.mem_map.1 hs
    have := h.nm t ht; omega
  · have hn' : n < z.ty.length := by omega
    have hk' := hkk hn'
    have e1 : w64 ((n : Int) + 1) = ((n + 1 : Nat) : Int) := by have := h.ty; rw [w64_in (by omega) (by omega)]; omega
    rw [Int.toNat_natCast, if_pos (by omega), if_pos (by omega)]
    refine asT1 hn' (asT2 hn' (asT3 hn' ?_))
    rw [if_pos (room16 _ (by rw [NV_len]; have := h.ty; simp; omega)), e1]
    refine (congrArg k ?_).mp hk'
    have : NV ((z.ty.map (·.2.2)).take (n + 1)) = NV ((z.ty.map (·.2.2)).take n) ++ [.c (.string (S (z.ty[n]).2.2))] := by
      rw [List.take_succ_eq_append_getElem (by simpa using hn')]
      simp [NV]
    rw [this]
end Go.Proofs.YtbnpclndiichcaaGreatDoor
end
section
set_option linter.unusedVariables false
set_option linter.unusedSimpArgs false
namespace Go.Proofs.YtbnpclndiichcaaGreatDoor
open Go Go.Proofs.YtbnpclndiichcaaGreatDoor.Eng Go.Proofs.YtbnpclndiichcaaGreatDoor.Pl
set_option linter.unusedVariables false
set_option linter.unusedSimpArgs false
set_option maxRecDepth 100000
set_option maxHeartbeats 4000000
theorem tMark (b : Bool) {K : Int → Prop} (h : K (if b = true then 1 else 0)) : Xblock_mark b K := by
  unfold Xblock_mark Yblock_mark
  cases b
  · rw [if_neg (by simp)] at h ⊢; exact h
  · rw [if_pos rfl] at h ⊢; exact h
theorem bytesV_S (l : List UInt8) : Eng.bytesV (S l) = B8 l := by simp [Eng.bytesV, B8]
theorem tEncode (z : Zn) (hz : ZI z) (k : Nat) (hk : k = 4 ∨ k = 8) {K : Bool → List V → Bool → Bool → Prop}
    (h : ∀ o f, K (blockR z k).2 (B8 (blockR z k).1) o f) : Xblock_Encode (tupZ z) (k : Int) K := by
  unfold Xblock_Encode Yblock_Encode
  have hk3 : k = 1 ∨ k = 4 ∨ k = 8 := .inr hk
  have hty := hz.ty
  have htr := hz.tr
  have hlp := hz.lp
  unfold blockR at h
  refine scount z hz fun r => ?_
  cases hc : countOk z
  · rw [if_pos (by rfl)]
    rw [hc, if_neg (by simp)] at h
    exact h true true
  rw [if_neg (by simp)]
  rw [hc] at h
  have hnm : ((z.ty.map (·.2.2)).all abbrL && decide (poolN [] (z.ty.map (·.2.2)) ≤ 256)) = true := by
    unfold countOk at hc
    simp only [Bool.and_eq_true] at hc ⊢
    exact hc.1.1.1.1.1
  have pbd := poolG_bd (namesZ z) [] [] 100 (fun s hs => by
    obtain ⟨t, ht, rfl⟩ := List.mem_map.1 hs
    exact hz.nm t ht) (by simp)
  have plen : (poolL (namesZ z)).2.length = z.ty.length := by unfold poolL; rw [poolG_len]; simp [namesZ]
  have hnl : (namesZ z).length = z.ty.length := by simp [namesZ]
  have pl1 : (poolL (namesZ z)).1.length ≤ 10100 := by
    have := pbd.1
    rw [hnl] at this
    unfold poolL
    simp at this
    omega
  suffices main : ∀ o y, lp (Lblock_Encode_0 Xblock_writer_put_1 Xblock_mark K) (((k : Int), (), (), false, S (poolL (namesZ z)).1, (), (), (tupZ z).2.1, (((tupZ z).2.1.length : Nat) : Int), 0, ()), tupZ z, ((), false, ()), (NI ((poolL (namesZ z)).2.map fun n : Nat => (n : Int)), o, y), ([], true, false), ()) by
    by_cases k4 : k = 4
    · rw [if_neg (by simp [k4])]
      refine tpoolZ z hz (fun o y _ => main o y) fun hn => ?_
      rw [hnm] at hn; cases hn
    · have k8 : k = 8 := by omega
      rw [if_pos (by simp [k8]), if_neg (by simp [k8])]
      refine tpoolZ z hz (fun o y _ => main o y) fun hn => ?_
      rw [hnm] at hn; cases hn
  intro o y
  generalize hP : (poolL (namesZ z)).1 = P at *
  generalize hA : (poolL (namesZ z)).2 = A at *
  rw [show (tupZ z).2.1 = RV z.tr from rfl, RV_len]
  refine lp_ind (fun x => z.tr.length - x.1.2.2.2.2.2.2.2.2.2.1.toNat) (fun x => ∃ (j : Nat) (bad : Bool) (l : List UInt8), j ≤ z.tr.length ∧ WI bad l (secF k (z.tr.take j)) (secW k (z.tr.take j)) (8 * j) ∧
    x = (((k : Int), (), (), false, S P, (), (), RV z.tr, (z.tr.length : Int), (j : Int), ()), tupZ z, ((), bad, ()), (NI (A.map fun n : Nat => (n : Int)), o, y), (B8 l, true, false), ())) ?_ ⟨0, false, [], by omega, ⟨rfl, fun _ => rfl, by simp⟩, rfl⟩
  rintro x ⟨j, bad, l, hj, hw, rfl⟩ k0 hk0
  unfold Lblock_Encode_0
  dsimp only
  rw [RV_len, Int.toNat_natCast]
  have hwl := hw.len
  by_cases e : j < z.tr.length
  · have e1 : w64 ((j : Int) + 1) = ((j + 1 : Nat) : Int) := by rw [w64_in (by omega) (by omega)]; omega
    rw [if_pos (decide_eq_true (by omega)), if_pos (by omega)]
    refine asR1 e (asR2 e ?_)
    refine tWrite _ k (fun _ => (hz.ti _ (List.getElem_mem e)).1) hk3 bad l (by omega) false ?_
    rw [e1]
    refine hk0 _ ⟨j + 1, _, _, e, ?_, rfl⟩ (by show z.tr.length - ((j + 1 : Nat) : Int).toNat < z.tr.length - ((j : Nat) : Int).toNat; omega)
    have := hw.step (k := k) (n := (z.tr[j]).1) hk3
    unfold secF secW at this ⊢
    rw [take_allS _ _ _ e, take_map_flat _ _ _ e]
    exact ⟨this.bad, this.eq, by have := this.len; omega⟩
  have : j = z.tr.length := by omega
  subst this
  rw [if_neg (dneg (by omega))]
  rw [List.take_length] at hw
  clear hk0
  rw [show (tupZ z).2.1 = RV z.tr from rfl, RV_len]
  refine lp_ind (fun x => z.tr.length - x.1.2.2.2.2.2.2.2.2.2.1.toNat) (fun x => ∃ (j : Nat) (bad : Bool) (l : List UInt8), j ≤ z.tr.length ∧ WI bad l (secF k z.tr && kdF (z.tr.take j)) (secW k z.tr ++ kdW (z.tr.take j)) (8 * z.tr.length + 8 * j) ∧
    x = (((k : Int), (), (), false, S P, (), (), RV z.tr, (z.tr.length : Int), (j : Int), ()), tupZ z, ((), bad, ()), (NI (A.map fun n : Nat => (n : Int)), o, y), (B8 l, true, false), ())) ?_ ⟨0, bad, l, by omega, ⟨by rw [hw.bad]; simp [kdF], fun q => by rw [hw.eq (by simpa [kdF] using q)]; simp [kdW], by have := hw.len; omega⟩, rfl⟩
  clear hw hwl
  rintro x ⟨j, bad, l, hj, hw, rfl⟩ k1 hk1
  unfold Lblock_Encode_1
  dsimp only
  rw [RV_len, Int.toNat_natCast]
  have hwl := hw.len
  by_cases e : j < z.tr.length
  · have e1 : w64 ((j : Int) + 1) = ((j + 1 : Nat) : Int) := by rw [w64_in (by omega) (by omega)]; omega
    rw [if_pos (decide_eq_true (by omega)), if_pos (by omega)]
    refine asR1 e (asR2 e ?_)
    refine tWrite _ 1 (by omega) (.inl rfl) bad l (by omega) false ?_
    rw [e1]
    refine hk1 _ ⟨j + 1, _, _, e, ?_, rfl⟩ (by show z.tr.length - ((j + 1 : Nat) : Int).toNat < z.tr.length - ((j : Nat) : Int).toNat; omega)
    have := hw.step (k := 1) (n := (z.tr[j]).2) (.inl rfl)
    unfold kdF kdW at this ⊢
    rw [take_allS _ _ _ e, take_map_flat _ _ _ e, ← Bool.and_assoc, ← List.append_assoc]
    exact ⟨this.bad, this.eq, by have := this.len; omega⟩
  have : j = z.tr.length := by omega
  subst this
  rw [if_neg (dneg (by omega))]
  rw [List.take_length] at hw
  clear hk1
  have hz1 : (z.ty.zip A).length = z.ty.length := by rw [List.length_zip, plen]; omega
  rw [show (tupZ z).1 = TV z.ty from rfl, TV_len]
  generalize hF0 : (secF k z.tr && kdF z.tr) = F0 at *
  generalize hb0 : secW k z.tr ++ kdW z.tr = b0 at *
  refine lp_ind (fun x => z.ty.length - x.1.2.2.2.2.2.2.2.2.2.1.toNat) (fun x => ∃ (j : Nat) (bad : Bool) (l : List UInt8), j ≤ z.ty.length ∧ WI bad l (F0 && tyF ((z.ty.zip A).take j)) (b0 ++ tyW ((z.ty.zip A).take j)) (16 * z.tr.length + 24 * j) ∧
    x = (((k : Int), (), (), false, S P, (), (), TV z.ty, (z.ty.length : Int), (j : Int), ()), tupZ z, ((), bad, ()), (NI (A.map fun n : Nat => (n : Int)), o, y), (B8 l, true, false), ())) ?_ ⟨0, bad, l, by omega, ⟨by rw [hw.bad]; simp [tyF], fun q => by rw [hw.eq (by simpa [tyF] using q)]; simp [tyW], by have := hw.len; omega⟩, rfl⟩
  clear hw hwl
  rintro x ⟨j, bad, l, hj, hw, rfl⟩ k2 hk2
  unfold Lblock_Encode_2
  dsimp only
  rw [TV_len, NI_len, List.length_map, plen, Int.toNat_natCast]
  have hwl := hw.len
  by_cases e : j < z.ty.length
  · have e1 : w64 ((j : Int) + 1) = ((j + 1 : Nat) : Int) := by rw [w64_in (by omega) (by omega)]; omega
    have hx : 0 ≤ (j : Int) ∧ (j : Int) < (z.ty.length : Int) := by omega
    rw [if_pos (decide_eq_true (by omega)), if_pos hx]
    refine asT1 e (asT2 e (asT3 e ?_))
    refine tWrite _ 4 (by omega) (.inr (.inl rfl)) bad l (by omega) false ?_
    have s1 := hw.step (k := 4) (n := (z.ty[j]).1) (.inr (.inl rfl))
    have l1 := s1.len
    refine tMark _ ?_
    refine tWrite _ 1 (by omega) (.inl rfl) _ _ (by omega) false ?_
    have s2 := s1.step (k := 1) (n := if (z.ty[j]).2.1 = true then 1 else 0) (.inl rfl)
    have l2 := s2.len
    rw [if_pos hx]
    refine asNI (by rw [List.length_map, plen]; exact e) ?_
    rw [List.getElem_map]
    refine tWrite _ 1 (by omega) (.inl rfl) _ _ (by omega) false ?_
    have s3 := s2.step (k := 1) (n := ((A[j]'(by omega) : Nat) : Int)) (.inl rfl)
    rw [e1]
    refine hk2 _ ⟨j + 1, _, _, e, ?_, rfl⟩ (by show z.ty.length - ((j + 1 : Nat) : Int).toNat < z.ty.length - ((j : Nat) : Int).toNat; omega)
    have hg : (z.ty.zip A)[j]'(by omega) = (z.ty[j], A[j]'(by omega)) := List.getElem_zip
    unfold tyF tyW at s3 ⊢
    rw [take_allS _ _ _ (by omega), take_map_flat _ _ _ (by omega), hg]
    dsimp only
    simp only [← Bool.and_assoc, ← List.append_assoc] at s3 ⊢
    exact ⟨s3.bad, s3.eq, by have := s3.len; omega⟩
  have : j = z.ty.length := by omega
  subst this
  rw [if_neg (dneg (by omega))]
  rw [← hz1, List.take_length, hz1] at hw
  clear hk2
  rw [bytesV_S, if_pos rfl, if_pos (room1 _ (by rw [B8_len, B8_len]; omega)), B8_app]
  rw [show (tupZ z).2.2.1 = RV z.lp from rfl, RV_len]
  generalize hF1 : (F0 && tyF (z.ty.zip A)) = F1 at *
  generalize hb1 : b0 ++ tyW (z.ty.zip A) = b1 at *
  refine lp_ind (fun x => z.lp.length - x.1.2.2.2.2.2.2.1.toNat) (fun x => ∃ (j : Nat) (bad : Bool) (l : List UInt8), j ≤ z.lp.length ∧ WI bad l (F1 && lpF k (z.lp.take j)) (b1 ++ P ++ lpW k (z.lp.take j)) (70000 + 16 * j) ∧
    x = (((k : Int), (), false, (), RV z.lp, (z.lp.length : Int), (j : Int), ()), ((), bad, ()), (B8 l, true, false), ())) ?_ ⟨0, bad, l ++ P, by omega, ⟨by rw [hw.bad]; simp [lpF], fun q => by rw [hw.eq (by simpa [lpF] using q)]; simp [lpW], by have := hw.len; rw [List.length_append]; omega⟩, rfl⟩
  clear hw hwl
  rintro x ⟨j, bad, l, hj, hw, rfl⟩ k3 hk3'
  unfold Lblock_Encode_3
  dsimp only
  rw [RV_len, Int.toNat_natCast]
  have hwl := hw.len
  by_cases e : j < z.lp.length
  · have e1 : w64 ((j : Int) + 1) = ((j + 1 : Nat) : Int) := by rw [w64_in (by omega) (by omega)]; omega
    rw [if_pos (decide_eq_true (by omega)), if_pos (by omega)]
    refine asR1 e (asR2 e ?_)
    refine tWrite _ k (fun _ => (hz.ri _ (List.getElem_mem e)).1) hk3 bad l (by omega) false ?_
    have s1 := hw.step (k := k) (n := (z.lp[j]).1) hk3
    have l1 := s1.len
    refine tWrite _ 4 (by omega) (.inr (.inl rfl)) _ _ (by omega) false ?_
    have s2 := s1.step (k := 4) (n := (z.lp[j]).2) (.inr (.inl rfl))
    rw [e1]
    refine hk3' _ ⟨j + 1, _, _, e, ?_, rfl⟩ (by show z.lp.length - ((j + 1 : Nat) : Int).toNat < z.lp.length - ((j : Nat) : Int).toNat; omega)
    unfold lpF lpW at s2 ⊢
    rw [take_allS _ _ _ e, take_map_flat _ _ _ e]
    simp only [← Bool.and_assoc, ← List.append_assoc] at s2 ⊢
    exact ⟨s2.bad, s2.eq, by have := s2.len; omega⟩
  have : j = z.lp.length := by omega
  subst this
  rw [if_neg (dneg (by omega))]
  rw [List.take_length] at hw
  have hB : blockF z k = (F1 && lpF k z.lp) := by unfold blockF; rw [hA, hF0, hF1]
  have hBB : blockB z k = b1 ++ P ++ lpW k z.lp := by unfold blockB; rw [hA, hP, hb0, hb1]
  rw [hB, hBB] at h
  cases hF : (F1 && lpF k z.lp)
  · rw [hF] at hw h
    rw [if_neg (by simp)] at h
    rw [if_pos (show bad = true by rw [hw.bad]; rfl)]
    exact h _ _
  · rw [hF] at hw h
    rw [if_pos ⟨rfl, rfl⟩] at h
    rw [if_neg (show ¬ bad = true by rw [hw.bad]; simp), hw.eq rfl]
    exact h _ _
end Go.Proofs.YtbnpclndiichcaaGreatDoor
end
section
set_option linter.unusedVariables false
set_option linter.unusedSimpArgs false
namespace Go.Proofs.YtbnpclndiichcaaGreatDoor
open Go Go.Proofs.YtbnpclndiichcaaGreatDoor.Eng Go.Proofs.YtbnpclndiichcaaGreatDoor.Pl
set_option linter.unusedVariables false
set_option linter.unusedSimpArgs false
set_option maxRecDepth 100000
set_option maxHeartbeats 4000000
theorem tHeadRight (h : Hd) {K : Bool → Prop} (hk : K (headOk h)) : Xhead_Right (tupHd h) K := by
  obtain ⟨v, ut, sd, l, t, y, c⟩ := h
  unfold Xhead_Right Yhead_Right tupHd
  unfold headOk at hk
  dsimp only at hk ⊢
  refine hwithin _ _ _ ?_
  cases h1 : nin l 0 201
  · have hk' : K false := by simpa [h1] using hk
    rw [if_neg (by simp)]
    repeat' split
    all_goals exact hk'
  rw [if_pos rfl]
  refine hwithin _ _ _ ?_
  cases h2 : nin t 0 2000
  · have hk' : K false := by simpa [h2] using hk
    rw [if_neg (by simp)]
    repeat' split
    all_goals exact hk'
  rw [if_pos rfl]
  refine hwithin _ _ _ ?_
  cases h3 : nin y 1 64
  · have hk' : K false := by simpa [h3] using hk
    rw [if_neg (by simp)]
    repeat' split
    all_goals exact hk'
  rw [if_pos rfl]
  refine hwithin _ _ _ ?_
  rw [h1, h2, h3] at hk
  cases e1 : (ut == 0) <;> cases e2 : (ut == y) <;> cases e3 : (sd == 0) <;> cases e4 : (sd == y) <;> cases h4 : nin c 1 256 <;>
    simp only [e1, e2, e3, e4, h4, Bool.true_and, Bool.and_true, Bool.false_and, Bool.and_false, Bool.or_true, Bool.true_or, Bool.or_false, Bool.false_or, if_true, Bool.false_eq_true, if_false] at hk ⊢ <;>
    first | exact hk | (refine hwithin _ _ _ ?_; exact hk)
theorem tSize (h : Hd) (k : Nat) (hk : k = 4 ∨ k = 8) {K : Int → Prop} (hK : K (sizeR h k)) : Xhead_Size (tupHd h) (k : Int) K := by
  unfold Xhead_Size Yhead_Size
  refine tHeadRight h ?_
  unfold sizeR at hK
  cases q : headOk h
  · rw [if_pos (by simp), if_pos (by simp)]
    rw [q, if_neg (by simp)] at hK; exact hK
  · rw [q, if_pos ⟨rfl, hk⟩] at hK
    rw [if_neg (by simp)]
    have o := head_ok q
    obtain ⟨v, ut, sd, l, t, y, c⟩ := h
    obtain ⟨o1, o2, o3, o4, o5, o6, o7⟩ := o
    unfold tupHd
    dsimp only at *
    simp only [lt]
    have e : w64 (w64 (w64 (w64 (w64 (t * w64 ((k : Int) + 1)) + w64 (y * 6)) + c) + w64 (l * w64 ((k : Int) + 4))) + sd) + ut = t * (k + 1) + y * 6 + c + l * (k + 4) + sd + ut := by
      rcases hk with rfl | rfl
      · rw [show w64 (((4 : Nat) : Int) + 1) = 5 from rfl, show w64 (((4 : Nat) : Int) + 4) = 8 from rfl, w64_in (n := t * 5) (by omega) (by omega), w64_in (n := y * 6) (by omega) (by omega), w64_in (n := l * 8) (by omega) (by omega), w64_in (n := t * 5 + y * 6) (by omega) (by omega), w64_in (n := t * 5 + y * 6 + c) (by omega) (by omega), w64_in (n := t * 5 + y * 6 + c + l * 8) (by omega) (by omega), w64_in (n := t * 5 + y * 6 + c + l * 8 + sd) (by omega) (by omega)]
        simp
      · rw [show w64 (((8 : Nat) : Int) + 1) = 9 from rfl, show w64 (((8 : Nat) : Int) + 4) = 12 from rfl, w64_in (n := t * 9) (by omega) (by omega), w64_in (n := y * 6) (by omega) (by omega), w64_in (n := l * 12) (by omega) (by omega), w64_in (n := t * 9 + y * 6) (by omega) (by omega), w64_in (n := t * 9 + y * 6 + c) (by omega) (by omega), w64_in (n := t * 9 + y * 6 + c + l * 12) (by omega) (by omega), w64_in (n := t * 9 + y * 6 + c + l * 12 + sd) (by omega) (by omega)]
        simp
    have e' : w64 (w64 (w64 (w64 (w64 (w64 (t * w64 ((k : Int) + 1)) + w64 (y * 6)) + c) + w64 (l * w64 ((k : Int) + 4))) + sd) + ut) = t * (k + 1) + y * 6 + c + l * (k + 4) + sd + ut := by
      rw [e]
      rcases hk with rfl | rfl
      · rw [w64_in (by simp; omega) (by simp; omega)]
      · rw [w64_in (by simp; omega) (by simp; omega)]
    rw [e']
    by_cases k4 : k = 4
    · rw [if_neg (by simp [k4])]; exact hK
    · rw [if_pos (by simp; omega), if_neg (by simp; omega)]; exact hK
theorem tAt (p : List UInt8) (hp : p.length ≤ 1000000) (a : Int) {K : ByteArray → Bool → Prop} (h : K (S (abbrAt p a).1) (abbrAt p a).2) : Xabbr_At (S p) a K := by
  unfold Xabbr_At Yabbr_At
  unfold abbrAt at h
  rw [S_size]
  by_cases h0 : a < 0
  · rw [if_pos (decide_eq_true h0)]
    rw [if_neg (by omega)] at h; exact h
  rw [if_neg (dneg h0)]
  by_cases h1 : a ≥ p.length
  · rw [if_pos (decide_eq_true h1)]
    rw [if_neg (by omega)] at h; exact h
  rw [if_neg (dneg h1), if_pos (by omega), if_pos (by omega), Int.toNat_natCast]
  have e : ByteArray.extract (S p) a.toNat p.length = S (p.drop a.toNat) := by
    rw [S_extract, List.take_of_length_le (by rw [List.length_drop]; omega)]
  rw [e]
  refine sCut (p.drop a.toNat) 0 (by rw [List.length_drop]; omega) ?_
  unfold splitL
  by_cases hz : nl (· == 0) (p.drop a.toNat) < (p.drop a.toNat).length
  · rw [if_pos hz, if_neg (by simp), take_nl]
    refine sabbr _ ?_
    unfold nameAt at h
    cases ha : abbrL ((p.drop a.toNat).takeWhile (· != 0))
    · rw [if_pos (by rfl)]
      rw [if_neg (by rw [ha]; simp)] at h; exact h
    · rw [if_neg (by simp)]
      rw [if_pos ⟨by omega, by omega, (zero_nl _).2 hz, ha⟩] at h; exact h
  · rw [if_neg hz, if_pos (by rfl)]
    rw [if_neg (fun q => hz ((zero_nl _).1 q.2.2.1))] at h; exact h
theorem tCont (l : List UInt8) (hl : l.length ≤ 1000000) {K : Bool → Prop} (h : K (!l.all fun c => decide (c.toNat ≤ 1))) : Xslices_ContainsFunc___byte_byte_ (B8 l) K := by
  unfold Xslices_ContainsFunc___byte_byte_ Yslices_ContainsFunc___byte_byte_ Xslices_IndexFunc___byte_byte_ Yslices_IndexFunc___byte_byte_
  rw [B8_len]
  refine lp_ind (fun x => l.length - x.1.2.2.2.2.1.toNat) (fun x => ∃ j : Nat, j ≤ l.length ∧ (l.take j).all (fun c => decide (c.toNat ≤ 1)) = true ∧ x = ((B8 l, ((), ()), (0 : Int), (l.length : Int), (j : Int), ()), ())) ?_ ⟨0, by omega, by simp, rfl⟩
  rintro x ⟨j, hj, hall, rfl⟩ k hk
  unfold Lslices_IndexFunc___byte_byte__0
  dsimp only
  rw [B8_len, Int.toNat_natCast]
  by_cases e : j < l.length
  · have e1 : w64 ((j : Int) + 1) = ((j + 1 : Nat) : Int) := by rw [w64_in (by omega) (by omega)]; omega
    rw [if_pos (decide_eq_true (by omega)), if_pos (by omega), e1]
    refine asB8 e ?_
    unfold Xblock_marked_1 Yblock_marked_1
    dsimp only
    by_cases hb : (l[j]).toNat ≤ 1
    · rw [if_neg (dneg (by omega))]
      refine hk _ ⟨j + 1, e, ?_, rfl⟩ (by show l.length - ((j + 1 : Nat) : Int).toNat < l.length - ((j : Nat) : Int).toNat; omega)
      rw [List.take_succ_eq_append_getElem e, List.all_append, hall]
      simpa using hb
    · rw [if_pos (decide_eq_true (by omega))]
      have : l.all (fun c => decide (c.toNat ≤ 1)) = false := by
        rw [Bool.eq_false_iff]; intro q
        exact hb (of_decide_eq_true (List.all_eq_true.1 q _ (List.getElem_mem e)))
      rw [this] at h
      rw [show decide ((j : Int) ≥ 0) = true from decide_eq_true (by omega)]
      exact h
  · have : j = l.length := by omega
    subst this
    rw [if_neg (dneg (by omega))]
    rw [List.take_length] at hall
    rw [hall] at h
    exact h
theorem tMarked (sd ut : List UInt8) (hs : sd.length ≤ 1000000) (hu : ut.length ≤ 1000000) {K : Bool → Prop} (h : K (markOk sd ut)) : Xblock_marked (B8 sd) (B8 ut) K := by
  unfold Xblock_marked Yblock_marked
  rw [B8_len]
  have hg : ∀ (l : List UInt8) (j : Nat) (e : j < l.length), l.getD j 0 = l[j] := fun l j e => by rw [List.getD_eq_getElem?_getD, List.getElem?_eq_getElem e]; rfl
  unfold markOk at h
  refine lp_ind (fun x => ut.length - x.1.2.2.2.2.2.2.1.toNat) (fun x => ∃ j : Nat, j ≤ ut.length ∧ (∀ i, i < j → (!(ut.getD i 0 == 1) || sd.getD i 0 == 1) = true) ∧ x = ((B8 sd, B8 ut, false, ((), ()), B8 ut, (ut.length : Int), (j : Int), ()), ())) ?_ ⟨0, by omega, by omega, rfl⟩
  rintro x ⟨j, hj, hall, rfl⟩ k hk
  unfold Lblock_marked_0
  dsimp only
  rw [B8_len, B8_len, Int.toNat_natCast]
  by_cases e : j < ut.length
  · have e1 : w64 ((j : Int) + 1) = ((j + 1 : Nat) : Int) := by rw [w64_in (by omega) (by omega)]; omega
    rw [if_pos (decide_eq_true (by omega)), if_pos (by omega), e1]
    refine asB8 e ?_
    have go : (!(ut.getD j 0 == 1) || sd.getD j 0 == 1) = true → k ((B8 sd, B8 ut, false, ((), ()), B8 ut, (ut.length : Int), ((j + 1 : Nat) : Int), ()), ()) := fun q =>
      hk _ ⟨j + 1, e, fun i hi => by
        rcases Nat.lt_or_ge i j with q1 | q1
        · exact hall i q1
        · have : i = j := by omega
          subst this; exact q, rfl⟩ (by show ut.length - ((j + 1 : Nat) : Int).toNat < ut.length - ((j : Nat) : Int).toNat; omega)
    have no : (!(ut.getD j 0 == 1) || sd.getD j 0 == 1) = false → K false := fun q => by
      have : (List.range ut.length).all (fun i => !(ut.getD i 0 == 1) || sd.getD i 0 == 1) = false := by
        rw [Bool.eq_false_iff]; intro q2
        have := List.all_eq_true.1 q2 j (List.mem_range.2 e)
        rw [q] at this; cases this
      rw [this, Bool.and_false] at h; exact h
    rw [hg ut j e] at go no
    have hu1 : ∀ c : UInt8, (c.toNat : Int) = 1 ↔ c = 1 := fun c => ⟨fun q => by
      apply UInt8.toNat_inj.1; show c.toNat = 1; omega, fun q => by rw [q]; rfl⟩
    by_cases c1 : ut[j] = 1
    · rw [if_pos (by rw [beq_iff_eq]; exact (hu1 _).2 c1)]
      rw [c1] at go no
      by_cases es : j < sd.length
      · rw [if_neg (dneg (by omega)), if_pos (by omega)]
        refine asB8 es ?_
        rw [hg sd j es] at go no
        by_cases c2 : sd[j] = 1
        · rw [if_neg (by simp; exact (hu1 _).2 c2)]
          exact go (by rw [c2]; rfl)
        · rw [if_pos (by simp; exact fun q => c2 ((hu1 _).1 q))]
          refine no ?_
          have : (sd[j] == (1 : UInt8)) = false := by rw [Bool.eq_false_iff]; intro q; exact c2 (eq_of_beq q)
          rw [this]; rfl
      · rw [if_pos (decide_eq_true (by omega))]
        refine no ?_
        have : sd.getD j 0 = 0 := by rw [List.getD_eq_getElem?_getD, List.getElem?_eq_none (by omega)]; rfl
        rw [this]; rfl
    · rw [if_neg (by rw [beq_iff_eq]; exact fun q => c1 ((hu1 _).1 q))]
      refine go ?_
      have : (ut[j] == (1 : UInt8)) = false := by rw [Bool.eq_false_iff]; intro q; exact c1 (eq_of_beq q)
      rw [this]; rfl
  · have : j = ut.length := by omega
    subst this
    rw [if_neg (dneg (by omega))]
    have hr : (List.range ut.length).all (fun i => !(ut.getD i 0 == 1) || sd.getD i 0 == 1) = true := List.all_eq_true.2 fun i hi => hall i (List.mem_range.1 hi)
    rw [hr, Bool.and_true] at h
    refine tCont sd hs ?_
    cases h1 : sd.all (fun c => decide (c.toNat ≤ 1))
    · rw [h1] at h
      rw [if_neg (by simp)]; exact h
    · rw [h1, Bool.true_and] at h
      rw [if_pos (by simp)]
      refine tCont ut hu ?_
      rw [Bool.not_not]; exact h
end Go.Proofs.YtbnpclndiichcaaGreatDoor
end
section
set_option linter.unusedVariables false
set_option linter.unusedSimpArgs false
namespace Go.Proofs.YtbnpclndiichcaaGreatDoor
open Go Go.Proofs.YtbnpclndiichcaaGreatDoor.Eng Go.Proofs.YtbnpclndiichcaaGreatDoor.Pl
set_option linter.unusedVariables false
set_option linter.unusedSimpArgs false
set_option maxRecDepth 100000
set_option maxHeartbeats 4000000
theorem tNumS1 (k : Nat) (hk : k = 1 ∨ k = 4 ∨ k = 8) (l : List UInt8) (hl : l.length ≤ 100000000) (hn : k ≤ l.length) {K : Int → Bool → List V → Bool → Bool → Prop}
    (h : K (numB (l.take k)) false (B8 (l.drop k)) false true) : Xoctet_Reader_Num_1 (k : Int) (B8 l) false K :=
  tNum1 k hk false l hl (fun _ _ => h) (fun q => q.elim (fun q => by cases q) (fun q => by omega))
theorem tNumS (k : Nat) (hk : k = 1 ∨ k = 4 ∨ k = 8) (l : List UInt8) (hl : l.length ≤ 100000000) (hn : k ≤ l.length) (o f : Bool) {K : Int → Bool → List V → Bool → Bool → Prop}
    (h : K (numB (l.take k)) false (B8 (l.drop k)) false true) : Xoctet_Reader_Num (k : Int) false (B8 l) o f K :=
  tNum k hk false l hl o f (fun _ _ => h) (fun q => q.elim (fun q => by cases q) (fun q => by omega))
theorem tTakeS (n : Nat) (l : List UInt8) (hl : l.length ≤ 100000000) (hn : n ≤ l.length) (o f : Bool) {K : Bool → List V → Bool → Bool → List V → Bool → Bool → Prop}
    (h : ∀ f', K false (B8 (l.take n)) true f' (B8 (l.drop n)) false true) : Xoctet_Reader_Take (n : Int) false (B8 l) o f K :=
  tTake n false l hl o f (fun _ _ => h) (fun q => q.elim (fun q => by cases q) (fun q => by omega))
theorem tTypes (n : Nat) (l : List UInt8) (hn : n ≤ 64) (h6 : 6 * n ≤ l.length) (hl : l.length ≤ 1000000) (o f : Bool) {K : Bool → Bool → List V → Bool → Bool → List V → Bool → Bool → List V → Bool → Bool → Prop}
    (h : K ((tyD n l).all fun x => decide (x.2.1 < 2)) false (TV ((tyD n l).map fun x => (x.1, x.2.1 == 1, []))) true false (NI ((tyD n l).map (·.2.2))) true false (B8 (l.drop (6 * n))) false true) : Xblock_types_1 (n : Int) false (B8 l) o f K := by
  unfold Xblock_types_1 Yblock_types_1
  have hT := tyD_len n l
  have hg := tyD_get n l
  generalize tyD n l = T at *
  refine lp_ind (fun x => n - x.1.2.2.2.2.2.1.toNat) (fun x => ∃ j : Nat, j ≤ n ∧ x = (((), (), (), (T.take j).all (fun x => decide (x.2.1 < 2)), (n : Int), (j : Int), ()), (B8 (l.drop (6 * j)), false, ()), (B8 l, o, true), TV ((T.take j).map fun x => (x.1, x.2.1 == 1, [])), NI ((T.take j).map (·.2.2)), ())) ?_ ⟨0, by omega, rfl⟩
  rintro x ⟨j, hj, rfl⟩ k hk
  unfold Lblock_types_1_0
  dsimp only
  by_cases e : j < n
  · have e1 : w64 ((j : Int) + 1) = ((j + 1 : Nat) : Int) := by rw [w64_in (by omega) (by omega)]; omega
    have hjT : j < T.length := by omega
    have hgj := hg j hjT
    have ht : T.take (j + 1) = T.take j ++ [T[j]] := List.take_succ_eq_append_getElem hjT
    rw [if_pos (decide_eq_true (by omega))]
    refine tNumS1 4 (.inr (.inl rfl)) _ (by rw [List.length_drop]; omega) (by rw [List.length_drop]; omega) ?_
    rw [List.drop_drop]
    refine tNumS 1 (.inl rfl) _ (by rw [List.length_drop]; omega) (by rw [List.length_drop]; omega) false true ?_
    rw [List.drop_drop, show 6 * j + 4 + 1 = 6 * j + 5 from rfl]
    have lenT : (TV ((T.take j).map fun x => ((x.1, x.2.1 == 1, []) : Ty))).length = j := by simp [TV]; omega
    have lenA : (NI ((T.take j).map (·.2.2))).length = j := by simp [NI]; omega
    rw [if_pos (room32 _ (by rw [lenT]; simp; omega))]
    simp only [lt]
    refine tNumS 1 (.inl rfl) _ (by rw [List.length_drop]; omega) (by rw [List.length_drop]; omega) false true ?_
    rw [List.drop_drop, show 6 * j + 5 + 1 = 6 * (j + 1) by omega]
    rw [if_pos (room8 _ (by rw [lenA]; simp; omega)), e1]
    have go : ∀ b, b = (T.take (j + 1)).all (fun x => decide (x.2.1 < 2)) → k (((), (), (), b, (n : Int), ((j + 1 : Nat) : Int), ()), (B8 (l.drop (6 * (j + 1))), false, ()), (B8 l, o, true), TV ((T.take j).map fun x => (x.1, x.2.1 == 1, [])) ++ [V.agg [V.c (Value.int IntKind.i64 (numB ((l.drop (6 * j)).take 4))), V.c (Value.bool (numB ((l.drop (6 * j + 4)).take 1) == 1)), V.c (Value.string (ByteArray.mk #[]))]], NI ((T.take j).map (·.2.2)) ++ [V.c (Value.int IntKind.i64 (numB ((l.drop (6 * j + 5)).take 1)))], ()) := fun b hb => by
      refine hk _ ⟨j + 1, e, ?_⟩ (by show n - ((j + 1 : Nat) : Int).toNat < n - ((j : Nat) : Int).toNat; omega)
      rw [ht, List.map_append, List.map_append, hgj, hb, ht, hgj]
      simp only [TV, NI, List.map_append, List.map_cons, List.map_nil]
      rfl
    have hall : (T.take (j + 1)).all (fun x => decide (x.2.1 < 2)) = ((T.take j).all (fun x => decide (x.2.1 < 2)) && decide (numB ((l.drop (6 * j + 4)).take 1) < 2)) := by
      rw [ht, List.all_append, hgj]; simp
    cases hc : (T.take j).all (fun x => decide (x.2.1 < 2))
    · rw [if_neg (by simp)]
      exact go _ (by rw [hall, hc]; rfl)
    · rw [if_pos rfl]
      exact go _ (by rw [hall, hc]; rfl)
  · have : j = n := by omega
    subst this
    rw [if_neg (dneg (by omega))]
    rw [List.take_of_length_le (by omega)]
    exact h
end Go.Proofs.YtbnpclndiichcaaGreatDoor
end
section
set_option linter.unusedVariables false
set_option linter.unusedSimpArgs false
namespace Go.Proofs.YtbnpclndiichcaaGreatDoor
open Go Go.Proofs.YtbnpclndiichcaaGreatDoor.Eng Go.Proofs.YtbnpclndiichcaaGreatDoor.Pl
set_option linter.unusedVariables false
set_option linter.unusedSimpArgs false
set_option maxRecDepth 100000
set_option maxHeartbeats 4000000
theorem RV_set0 (l : List Rec) (i : Nat) (h : i < l.length) (x : Int) : List.set (RV l) i (Eng.setE (List.getD (RV l) i Eng.V.bad) 0 [V.c (.int .i64 x)]) = RV (l.set i (x, (l[i]).2)) := by
  have : List.getD (RV l) i V.bad = eRec l[i] := by simp [RV, List.getD, h]
  rw [this]
  show List.set (RV l) i (eRec (x, (l[i]).2)) = _
  simp [RV, List.map_set]
theorem RV_set1 (l : List Rec) (i : Nat) (h : i < l.length) (x : Int) : List.set (RV l) i (Eng.setE (List.getD (RV l) i Eng.V.bad) 1 [V.c (.int .i64 x)]) = RV (l.set i ((l[i]).1, x)) := by
  have : List.getD (RV l) i V.bad = eRec l[i] := by simp [RV, List.getD, h]
  rw [this]
  show List.set (RV l) i (eRec ((l[i]).1, x)) = _
  simp [RV, List.map_set]
theorem TV_set2 (l : List Ty) (i : Nat) (h : i < l.length) (s : List UInt8) : List.set (TV l) i (Eng.setE (List.getD (TV l) i Eng.V.bad) 2 [V.c (.string (S s))]) = TV (l.set i ((l[i]).1, (l[i]).2.1, s)) := by
  have : List.getD (TV l) i V.bad = eTy l[i] := by simp [TV, List.getD, h]
  rw [this]
  show List.set (TV l) i (eTy ((l[i]).1, (l[i]).2.1, s)) = _
  simp [TV, List.map_set]
theorem RV_snoc (l : List Rec) (a c : Int) : RV l ++ [V.agg [V.c (Value.int IntKind.i64 a), V.c (Value.int IntKind.i64 c)]] = RV (l ++ [(a, c)]) := by simp [RV, eRec]
/-- A zone's data, with its head, of the size that is told. -/
structure BI (h : Hd) (b : List UInt8) (k : Nat) : Prop where
  kk : k = 4 ∨ k = 8
  ok : headOk h = true
  len : b.length = oUt h k + h.ut.toNat
  bd : b.length ≤ 1000000
theorem tL11 {h : Hd} {b : List UInt8} {k : Nat} (B : BI h b k) (tr : List Rec) (ty : List Ty) (ok o f : Bool) {K : _ → Bool → List V → Bool → Bool → List V → Bool → Bool → List V → Bool → Bool → Prop} (k1 k2 k3 : _ → Prop)
    (h1 : (ok && markOk ((b.drop (oSd h k)).take h.sd.toNat) ((b.drop (oUt h k)).take h.ut.toNat)) = true → K ((), (), (), ByteArray.mk #[], h.v, ()) true (TV ty) true false (RV tr) true false (RV (lpD k h.lp.toNat (b.drop (oLp h k)))) true false)
    (h2 : (ok && markOk ((b.drop (oSd h k)).take h.sd.toNat) ((b.drop (oUt h k)).take h.ut.toNat)) = false → K ((), (), (), ByteArray.mk #[], 0, ()) false [] true true [] true true [] true true) :
    lp (Lblock_Decode_11 Xoctet_Reader_Num Xoctet_Reader_Take Xblock_marked K k1 k2 k3) (((k : Int), (), (), false, (), (), ok, h.lp, (0 : Int), ()), tupHd h, ([], [], [], ByteArray.mk #[], (0 : Int), ()), ((), (), (), ByteArray.mk #[], h.v, ()), ((), false, ()), RV tr, (TV ty, true, false), (B8 (b.drop (oLp h k)), o, f), [], ()) := by
  have hk3 : k = 1 ∨ k = 4 ∨ k = 8 := .inr B.kk
  have o9 := head_ok B.ok
  have hb := B.len
  have hbd := B.bd
  have q4 : oSd h k = oLp h k + (k + 4) * h.lp.toNat := rfl
  have q5 : oUt h k = oSd h k + h.sd.toNat := rfl
  have eL : h.lp = ((h.lp.toNat : Nat) : Int) := by have := o9.lp; omega
  have eS : h.sd = ((h.sd.toNat : Nat) : Int) := by have := o9.sd; have := o9.ty; omega
  have eU : h.ut = ((h.ut.toNat : Nat) : Int) := by have := o9.ut; have := o9.ty; omega
  have hL := lpD_len k h.lp.toNat (b.drop (oLp h k))
  have hg := lpD_get k h.lp.toNat (b.drop (oLp h k))
  have hl200 := o9.lp
  generalize lpD k h.lp.toNat (b.drop (oLp h k)) = L at *
  refine lp_ind (fun x => h.lp.toNat - x.1.2.2.2.2.2.2.2.2.1.toNat) (fun x => ∃ (j : Nat) (o f : Bool), j ≤ h.lp.toNat ∧ x = (((k : Int), (), (), false, (), (), ok, h.lp, (j : Int), ()), tupHd h, ([], [], [], ByteArray.mk #[], (0 : Int), ()), ((), (), (), ByteArray.mk #[], h.v, ()), ((), false, ()), RV tr, (TV ty, true, false), (B8 (b.drop (oLp h k + (k + 4) * j)), o, f), RV (L.take j), ())) ?_ ⟨0, o, f, by omega, rfl⟩
  rintro x ⟨j, o, f, hj, rfl⟩ k' hk'
  unfold Lblock_Decode_11
  dsimp only
  by_cases e : j < h.lp.toNat
  · have e1 : w64 ((j : Int) + 1) = ((j + 1 : Nat) : Int) := by rw [w64_in (by omega) (by omega)]; omega
    have m1 : (k + 4) * (j + 1) = (k + 4) * j + (k + 4) := Nat.mul_succ _ _
    have m2 : (k + 4) * (j + 1) ≤ (k + 4) * h.lp.toNat := Nat.mul_le_mul_left _ e
    have hgj := hg j (by omega)
    have ht : L.take (j + 1) = L.take j ++ [L[j]'(by omega)] := List.take_succ_eq_append_getElem (by omega)
    rw [if_pos (decide_eq_true (by omega))]
    refine tNumS k hk3 _ (by rw [List.length_drop]; omega) (by rw [List.length_drop]; omega) o f ?_
    rw [List.drop_drop]
    refine tNumS 4 (.inr (.inl rfl)) _ (by rw [List.length_drop]; omega) (by rw [List.length_drop]; omega) false true ?_
    rw [List.drop_drop, show oLp h k + (k + 4) * j + k + 4 = oLp h k + (k + 4) * (j + 1) by omega]
    have lenL : (RV (L.take j)).length = j := by rw [RV_len, List.length_take]; omega
    rw [if_pos (room16 _ (by rw [lenL]; simp; omega)), e1, RV_snoc]
    have eLj : (numB ((b.drop (oLp h k + (k + 4) * j)).take k), numB ((b.drop (oLp h k + (k + 4) * j + k)).take 4)) = L[j]'(by omega) := by
      rw [hgj, List.drop_drop, List.drop_drop, Nat.add_assoc (oLp h k)]
    rw [eLj, ← ht]
    refine hk' _ ⟨j + 1, false, true, e, rfl⟩ (by show h.lp.toNat - ((j + 1 : Nat) : Int).toNat < h.lp.toNat - ((j : Nat) : Int).toNat; omega)
  · have : j = h.lp.toNat := by omega
    subst this
    rw [if_neg (dneg (by omega)), ← q4]
    rw [List.take_of_length_le (by omega)]
    show Xoctet_Reader_Take h.sd false (B8 (b.drop (oSd h k))) o f _
    rw [eS]
    refine tTakeS _ _ (by rw [List.length_drop]; omega) (by rw [List.length_drop]; omega) o f fun f1 => ?_
    rw [List.drop_drop, ← q5]
    show Xoctet_Reader_Take h.ut false (B8 (b.drop (oUt h k))) false true _
    rw [eU]
    refine tTakeS _ _ (by rw [List.length_drop]; omega) (by rw [List.length_drop]; omega) false true fun f2 => ?_
    refine tMarked _ _ (by rw [List.length_take, List.length_drop]; omega) (by rw [List.length_take, List.length_drop]; omega) ?_
    cases hm : markOk ((b.drop (oSd h k)).take h.sd.toNat) ((b.drop (oUt h k)).take h.ut.toNat)
    · rw [if_pos (by rfl)]
      exact h2 (by rw [hm, Bool.and_false])
    · rw [if_neg (by simp)]
      cases ok
      · rw [if_pos (by rfl)]
        exact h2 rfl
      · rw [if_neg (by simp)]
        exact h1 (by rw [hm]; rfl)
end Go.Proofs.YtbnpclndiichcaaGreatDoor
end
section
set_option linter.unusedVariables false
set_option linter.unusedSimpArgs false
namespace Go.Proofs.YtbnpclndiichcaaGreatDoor
open Go Go.Proofs.YtbnpclndiichcaaGreatDoor.Eng Go.Proofs.YtbnpclndiichcaaGreatDoor.Pl
set_option linter.unusedVariables false
set_option linter.unusedSimpArgs false
set_option maxRecDepth 100000
set_option maxHeartbeats 4000000
theorem NI_get {ns : List Int} {i : Nat} (h : i < ns.length) {F : Prop} {K : Int → Prop} (hk : K ns[i]) : Eng.asInt .i64 (getC (NI ns) i 0) F K := asNI h hk
theorem tL10 {h : Hd} {b : List UInt8} {k : Nat} (B : BI h b k) (tr : List Rec) (o f : Bool) {K : _ → Bool → List V → Bool → Bool → List V → Bool → Bool → List V → Bool → Bool → Prop} (k1 k2 : _ → Prop)
    (h1 : blockK h b k = true → K ((), (), (), ByteArray.mk #[], h.v, ()) true (TV ((tysD h b k).map fun x => (x.1, x.2.1 == 1, (abbrAt (chD h b k) x.2.2).1))) true false (RV tr) true false (RV (lpD k h.lp.toNat (b.drop (oLp h k)))) true false)
    (h2 : blockK h b k = false → K ((), (), (), ByteArray.mk #[], 0, ()) false [] true true [] true true [] true true) :
    lp (Lblock_Decode_10 Xabbr_At Xoctet_Reader_Num Xoctet_Reader_Take Xblock_marked K k1 k2) (((k : Int), (), (), false, (), (), (), (), (tysD h b k).all (fun x => decide (x.2.1 < 2)), S (chD h b k), h.ty, (0 : Int), ()), tupHd h, ((), (), (), ByteArray.mk #[], (0 : Int), ()), ((), (), (), ByteArray.mk #[], h.v, ()), ((), false, ()), RV tr, (TV ((tysD h b k).map fun x => (x.1, x.2.1 == 1, [])), true, false), (NI ((tysD h b k).map (·.2.2)), true, false), (B8 (b.drop (oLp h k)), o, f), ()) := by
  have o9 := head_ok B.ok
  have hty := o9.ty
  have eY : h.ty = ((h.ty.toNat : Nat) : Int) := by omega
  have hch := o9.ch
  have hpl : (chD h b k).length ≤ 1000000 := by unfold chD; rw [List.length_take]; omega
  have hT : (tysD h b k).length = h.ty.toNat := tyD_len _ _
  unfold blockK at h1 h2
  generalize tysD h b k = T at *
  generalize chD h b k = p at *
  refine lp_ind (fun x => h.ty.toNat - x.1.2.2.2.2.2.2.2.2.2.2.2.1.toNat) (fun x => ∃ (j : Nat) (l : List Ty), j ≤ h.ty.toNat ∧ l.length = T.length ∧ (∀ i (hi : i < T.length), l[i]? = some ((T[i]).1, (T[i]).2.1 == 1, if i < j then (abbrAt p (T[i]).2.2).1 else [])) ∧
    x = (((k : Int), (), (), false, (), (), (), (), T.all (fun x => decide (x.2.1 < 2)) && (T.take j).all (fun x => (abbrAt p x.2.2).2), S p, h.ty, (j : Int), ()), tupHd h, ((), (), (), ByteArray.mk #[], (0 : Int), ()), ((), (), (), ByteArray.mk #[], h.v, ()), ((), false, ()), RV tr, (TV l, true, false), (NI (T.map (·.2.2)), true, false), (B8 (b.drop (oLp h k)), o, f), ())) ?_ ⟨0, T.map fun x => ((x.1, x.2.1 == 1, []) : Ty), by omega, by rw [List.length_map], fun i hi => by rw [List.getElem?_map, List.getElem?_eq_getElem hi]; rfl, by rw [List.take_zero, List.all_nil, Bool.and_true]; rfl⟩
  rintro x ⟨j, l, hj, hl, hg, rfl⟩ k' hk'
  unfold Lblock_Decode_10
  dsimp only
  by_cases e : j < h.ty.toNat
  · have e1 : w64 ((j : Int) + 1) = ((j + 1 : Nat) : Int) := by rw [w64_in (by omega) (by omega)]; omega
    have hjT : j < T.length := by omega
    have hjl : j < l.length := by omega
    have ht : T.take (j + 1) = T.take j ++ [T[j]] := List.take_succ_eq_append_getElem hjT
    rw [if_pos (decide_eq_true (by omega)), NI_len, TV_len, List.length_map, Int.toNat_natCast, if_pos (by omega)]
    refine NI_get (by rw [List.length_map]; exact hjT) ?_
    rw [List.getElem_map]
    refine tAt p hpl _ ?_
    rw [if_pos (by omega), if_pos rfl, if_pos (by omega), TV_set2 l j hjl, e1]
    have hlj : l[j] = ((T[j]).1, (T[j]).2.1 == 1, []) := by
      have := hg j hjT
      rw [List.getElem?_eq_getElem hjl, if_neg (by omega)] at this
      exact Option.some.inj this
    have go : ∀ c, c = (T.all (fun x => decide (x.2.1 < 2)) && (T.take (j + 1)).all (fun x => (abbrAt p x.2.2).2)) → k' (((k : Int), (), (), false, (), (), (), (), c, S p, h.ty, ((j + 1 : Nat) : Int), ()), tupHd h, ((), (), (), ByteArray.mk #[], (0 : Int), ()), ((), (), (), ByteArray.mk #[], h.v, ()), ((), false, ()), RV tr, (TV (l.set j ((l[j]).1, (l[j]).2.1, (abbrAt p (T[j]).2.2).1)), true, false), (NI (T.map (·.2.2)), true, false), (B8 (b.drop (oLp h k)), o, f), ()) := fun c hc => by
      refine hk' _ ⟨j + 1, l.set j ((l[j]).1, (l[j]).2.1, (abbrAt p (T[j]).2.2).1), e, by rw [List.length_set]; exact hl, fun i hi => ?_, by rw [hc]⟩ (by show h.ty.toNat - ((j + 1 : Nat) : Int).toNat < h.ty.toNat - ((j : Nat) : Int).toNat; omega)
      rw [List.getElem?_set]
      by_cases hij : j = i
      · subst hij
        rw [if_pos rfl, if_pos hjl, hlj, if_pos (by omega)]
      · rw [if_neg hij, hg i hi]
        by_cases hlt : i < j
        · rw [if_pos hlt, if_pos (by omega)]
        · rw [if_neg hlt, if_neg (by omega)]
    have hall : (T.take (j + 1)).all (fun x => (abbrAt p x.2.2).2) = ((T.take j).all (fun x => (abbrAt p x.2.2).2) && (abbrAt p (T[j]).2.2).2) := by
      rw [ht, List.all_append]; simp
    cases hc : (T.all (fun x => decide (x.2.1 < 2)) && (T.take j).all (fun x => (abbrAt p x.2.2).2))
    · rw [if_neg (by simp)]
      exact go _ (by rw [hall, ← Bool.and_assoc, hc]; rfl)
    · rw [if_pos rfl]
      exact go _ (by rw [hall, ← Bool.and_assoc, hc]; rfl)
  · have : j = h.ty.toNat := by omega
    subst this
    rw [if_neg (dneg (by omega))]
    have el : l = T.map fun x => (x.1, x.2.1 == 1, (abbrAt p x.2.2).1) := by
      refine List.ext_getElem? fun i => ?_
      by_cases hi : i < T.length
      · rw [hg i hi, if_pos (by omega), List.getElem?_map, List.getElem?_eq_getElem hi]; rfl
      · rw [List.getElem?_eq_none (by omega), List.getElem?_eq_none (by rw [List.length_map]; omega)]
    rw [el, List.take_of_length_le (by omega)]
    exact tL11 B tr _ _ o f k1 k2 k' h1 h2
end Go.Proofs.YtbnpclndiichcaaGreatDoor
end
section
set_option linter.unusedVariables false
set_option linter.unusedSimpArgs false
namespace Go.Proofs.YtbnpclndiichcaaGreatDoor
open Go Go.Proofs.YtbnpclndiichcaaGreatDoor.Eng Go.Proofs.YtbnpclndiichcaaGreatDoor.Pl
set_option linter.unusedVariables false
set_option linter.unusedSimpArgs false
set_option maxRecDepth 100000
set_option maxHeartbeats 4000000
abbrev trA (b : List UInt8) (k : Nat) (i : Nat) : Int := numB ((b.drop (k * i)).take k)
abbrev trB (b : List UInt8) (k n : Nat) (i : Nat) : Int := numB ((b.drop (k * n + i)).take 1)
theorem tr_zip (b : List UInt8) (k n : Nat) (l : List Rec) (hl : l.length = n) (hg : ∀ i, i < n → l[i]? = some (trA b k i, trB b k n i)) : l = (secD k n b).zip (secD 1 n (b.drop (k * n))) := by
  have h1 := secD_len k n b
  have h2 := secD_len 1 n (b.drop (k * n))
  refine List.ext_getElem? fun i => ?_
  by_cases hi : i < n
  · rw [hg i hi, List.getElem?_eq_getElem (by rw [List.length_zip]; omega), List.getElem_zip, secD_get, secD_get, List.drop_drop, Nat.one_mul]
  · rw [List.getElem?_eq_none (by omega), List.getElem?_eq_none (by rw [List.length_zip]; omega)]
theorem tL9 {h : Hd} {b : List UInt8} {k : Nat} (B : BI h b k) (l0 : List Rec) (hl0 : l0.length = h.tr.toNat) (hg0 : ∀ i, i < h.tr.toNat → l0[i]? = some (trA b k i, 0)) (o f : Bool) {K : _ → Bool → List V → Bool → Bool → List V → Bool → Bool → List V → Bool → Bool → Prop} (k1 : _ → Prop)
    (h1 : blockK h b k = true → K ((), (), (), ByteArray.mk #[], h.v, ()) true (TV (blockZ h b k).ty) true false (RV (blockZ h b k).tr) true false (RV (blockZ h b k).lp) true false)
    (h2 : blockK h b k = false → K ((), (), (), ByteArray.mk #[], 0, ()) false [] true true [] true true [] true true) :
    lp (Lblock_Decode_9 Xoctet_Reader_Num Xblock_types_1 Xoctet_Reader_Take Xabbr_At Xblock_marked K k1) (((k : Int), (), (), false, (), (), (h.tr.toNat : Int), (0 : Int), ()), tupHd h, ((), (), (), ByteArray.mk #[], (0 : Int), ()), ((), (), (), ByteArray.mk #[], h.v, ()), ((), false, ()), (B8 (b.drop (k * h.tr.toNat)), o, f), RV l0, ()) := by
  have o9 := head_ok B.ok
  have htr := o9.tr
  have hty := o9.ty
  have hch := o9.ch
  have hb := B.len
  have hbd := B.bd
  have q1 : oTy h k = k * h.tr.toNat + h.tr.toNat := by unfold oTy; rw [Nat.add_mul]; omega
  have q2 : oCh h k = oTy h k + 6 * h.ty.toNat := rfl
  have q3 : oLp h k = oCh h k + h.ch.toNat := rfl
  have q4 : oSd h k = oLp h k + (k + 4) * h.lp.toNat := rfl
  have q5 : oUt h k = oSd h k + h.sd.toNat := rfl
  have eY : h.ty = ((h.ty.toNat : Nat) : Int) := by omega
  have eC : h.ch = ((h.ch.toNat : Nat) : Int) := by omega
  refine lp_ind (fun x => h.tr.toNat - x.1.2.2.2.2.2.2.2.1.toNat) (fun x => ∃ (j : Nat) (o f : Bool) (l : List Rec), j ≤ h.tr.toNat ∧ l.length = h.tr.toNat ∧ (∀ i, i < h.tr.toNat → l[i]? = some (trA b k i, if i < j then trB b k h.tr.toNat i else 0)) ∧
    x = (((k : Int), (), (), false, (), (), (h.tr.toNat : Int), (j : Int), ()), tupHd h, ((), (), (), ByteArray.mk #[], (0 : Int), ()), ((), (), (), ByteArray.mk #[], h.v, ()), ((), false, ()), (B8 (b.drop (k * h.tr.toNat + j)), o, f), RV l, ())) ?_ ⟨0, o, f, l0, by omega, hl0, fun i hi => by rw [hg0 i hi, if_neg (by omega)], rfl⟩
  rintro x ⟨j, o, f, l, hj, hl, hg, rfl⟩ k' hk'
  unfold Lblock_Decode_9
  dsimp only
  by_cases e : j < h.tr.toNat
  · have e1 : w64 ((j : Int) + 1) = ((j + 1 : Nat) : Int) := by rw [w64_in (by omega) (by omega)]; omega
    rw [if_pos (decide_eq_true (by omega))]
    refine tNumS 1 (.inl rfl) _ (by rw [List.length_drop]; omega) (by rw [List.length_drop]; omega) o f ?_
    rw [List.drop_drop, Nat.add_assoc, RV_len, Int.toNat_natCast, if_pos (by omega), if_pos (by omega), RV_set1 l j (by omega), e1]
    refine hk' _ ⟨j + 1, false, true, _, e, by rw [List.length_set]; exact hl, fun i hi => ?_, rfl⟩ (by show h.tr.toNat - ((j + 1 : Nat) : Int).toNat < h.tr.toNat - ((j : Nat) : Int).toNat; omega)
    rw [List.getElem?_set]
    by_cases hij : j = i
    · subst hij
      have := hg j hi
      rw [List.getElem?_eq_getElem (by omega), if_neg (Nat.lt_irrefl j)] at this
      have hlj := Option.some.inj this
      rw [if_pos rfl, if_pos (by omega), hlj, if_pos (Nat.lt_succ_self j)]
    · rw [if_neg hij, hg i hi]
      by_cases hlt : i < j
      · rw [if_pos hlt, if_pos (by omega)]
      · rw [if_neg hlt, if_neg (by omega)]
  · have : j = h.tr.toNat := by omega
    subst this
    rw [if_neg (dneg (by omega)), ← q1]
    show Xblock_types_1 h.ty false (B8 (b.drop (oTy h k))) o f _
    rw [eY]
    refine tTypes _ _ (by omega) (by rw [List.length_drop]; omega) (by rw [List.length_drop]; omega) o f ?_
    rw [List.drop_drop, ← q2]
    show Xoctet_Reader_Take h.ch false (B8 (b.drop (oCh h k))) false true _
    rw [eC]
    refine tTakeS _ _ (by rw [List.length_drop]; omega) (by rw [List.length_drop]; omega) false true fun f' => ?_
    rw [if_pos (B8_all _), B8_pack, List.drop_drop, ← q3]
    have el := tr_zip b k h.tr.toNat l hl (fun i hi => by rw [hg i hi, if_pos hi])
    have hlen : (TV ((tyD h.ty.toNat (b.drop (oTy h k))).map fun x => ((x.1, x.2.1 == 1, []) : Ty))).length = h.ty.toNat := by rw [TV_len, List.length_map, tyD_len]
    rw [hlen, ← eY, el]
    exact tL10 B _ false true k1 k' h1 h2
theorem tL8 {h : Hd} {b : List UInt8} {k : Nat} (B : BI h b k) (o f : Bool) {K : _ → Bool → List V → Bool → Bool → List V → Bool → Bool → List V → Bool → Bool → Prop}
    (h1 : blockK h b k = true → K ((), (), (), ByteArray.mk #[], h.v, ()) true (TV (blockZ h b k).ty) true false (RV (blockZ h b k).tr) true false (RV (blockZ h b k).lp) true false)
    (h2 : blockK h b k = false → K ((), (), (), ByteArray.mk #[], 0, ()) false [] true true [] true true [] true true) :
    lp (Lblock_Decode_8 Xoctet_Reader_Num Xblock_types_1 Xoctet_Reader_Take Xabbr_At Xblock_marked K) (((k : Int), (), (), false, (), (), (h.tr.toNat : Int), (0 : Int), ()), tupHd h, ((), (), (), ByteArray.mk #[], (0 : Int), ()), ((), (), (), ByteArray.mk #[], h.v, ()), ((), false, ()), (B8 b, o, f), RV (List.replicate h.tr.toNat (0, 0)), ()) := by
  have hk3 : k = 1 ∨ k = 4 ∨ k = 8 := .inr B.kk
  have o9 := head_ok B.ok
  have htr := o9.tr
  have hb := B.len
  have hbd := B.bd
  have q1 : oTy h k = k * h.tr.toNat + h.tr.toNat := by unfold oTy; rw [Nat.add_mul]; omega
  have q2 : oCh h k = oTy h k + 6 * h.ty.toNat := rfl
  have q3 : oLp h k = oCh h k + h.ch.toNat := rfl
  have q4 : oSd h k = oLp h k + (k + 4) * h.lp.toNat := rfl
  have q5 : oUt h k = oSd h k + h.sd.toNat := rfl
  refine lp_ind (fun x => h.tr.toNat - x.1.2.2.2.2.2.2.2.1.toNat) (fun x => ∃ (j : Nat) (o f : Bool) (l : List Rec), j ≤ h.tr.toNat ∧ l.length = h.tr.toNat ∧ (∀ i, i < h.tr.toNat → l[i]? = some (if i < j then trA b k i else 0, 0)) ∧
    x = (((k : Int), (), (), false, (), (), (h.tr.toNat : Int), (j : Int), ()), tupHd h, ((), (), (), ByteArray.mk #[], (0 : Int), ()), ((), (), (), ByteArray.mk #[], h.v, ()), ((), false, ()), (B8 (b.drop (k * j)), o, f), RV l, ())) ?_ ⟨0, o, f, _, by omega, List.length_replicate, fun i hi => by rw [if_neg (by omega)]; simp [hi], rfl⟩
  rintro x ⟨j, o, f, l, hj, hl, hg, rfl⟩ k' hk'
  unfold Lblock_Decode_8
  dsimp only
  by_cases e : j < h.tr.toNat
  · have e1 : w64 ((j : Int) + 1) = ((j + 1 : Nat) : Int) := by rw [w64_in (by omega) (by omega)]; omega
    have m1 : k * (j + 1) = k * j + k := Nat.mul_succ _ _
    have m2 : k * (j + 1) ≤ k * h.tr.toNat := Nat.mul_le_mul_left _ e
    rw [if_pos (decide_eq_true (by omega))]
    refine tNumS k hk3 _ (by rw [List.length_drop]; omega) (by rw [List.length_drop]; omega) o f ?_
    rw [List.drop_drop, ← m1, RV_len, Int.toNat_natCast, if_pos (by omega), if_pos (by omega), RV_set0 l j (by omega), e1]
    refine hk' _ ⟨j + 1, false, true, _, e, by rw [List.length_set]; exact hl, fun i hi => ?_, rfl⟩ (by show h.tr.toNat - ((j + 1 : Nat) : Int).toNat < h.tr.toNat - ((j : Nat) : Int).toNat; omega)
    rw [List.getElem?_set]
    by_cases hij : j = i
    · subst hij
      have := hg j hi
      rw [List.getElem?_eq_getElem (by omega), if_neg (Nat.lt_irrefl j)] at this
      have hlj := Option.some.inj this
      rw [if_pos rfl, if_pos (by omega), hlj, if_pos (Nat.lt_succ_self j)]
    · rw [if_neg hij, hg i hi]
      by_cases hlt : i < j
      · rw [if_pos hlt, if_pos (by omega)]
      · rw [if_neg hlt, if_neg (by omega)]
  · have : j = h.tr.toNat := by omega
    subst this
    rw [if_neg (dneg (by omega)), RV_len, hl]
    exact tL9 B l hl (fun i hi => by rw [hg i hi, if_pos hi]) o f k' h1 h2
theorem tBlockDecode (h : Hd) (b : List UInt8) (hb : b.length ≤ 1000000) (k : Nat) (hk : k = 4 ∨ k = 8) {K : _ → Bool → List V → Bool → Bool → List V → Bool → Bool → List V → Bool → Bool → Prop}
    (h1 : (blockD h b k).2 = true → K ((), (), (), ByteArray.mk #[], (blockD h b k).1.v, ()) true (TV (blockD h b k).1.ty) true false (RV (blockD h b k).1.tr) true false (RV (blockD h b k).1.lp) true false)
    (h2 : (blockD h b k).2 = false → K ((), (), (), ByteArray.mk #[], 0, ()) false [] true true [] true true [] true true) : Xblock_Decode (tupHd h) (B8 b) (k : Int) K := by
  unfold Xblock_Decode Yblock_Decode
  refine tSize h k hk ?_
  unfold blockD at h1 h2
  by_cases s0 : sizeR h k = 0
  · rw [if_pos (by simp [s0])]
    rw [if_neg (by simp [s0])] at h2
    exact h2 rfl
  rw [if_neg (by simpa using s0), B8_len]
  by_cases s1 : (b.length : Int) = sizeR h k
  · rw [if_neg (by simp [s1])]
    obtain ⟨g1, g2, g3⟩ := size_sum s0
    have B : BI h b k := ⟨hk, g1, by omega, hb⟩
    have o9 := head_ok g1
    have htr := o9.tr
    have er : List.replicate h.tr.toNat (Eng.ofVal (Value.agg #[Value.int IntKind.i64 (0 : Int), Value.int IntKind.i64 (0 : Int)])) = RV (List.replicate h.tr.toNat (0, 0)) := by
      unfold RV; rw [List.map_replicate]; rfl
    have el : (RV (List.replicate h.tr.toNat ((0, 0) : Rec))).length = h.tr.toNat := by rw [RV_len, List.length_replicate]
    have hh : ∀ o f, lp (Lblock_Decode_8 Xoctet_Reader_Num Xblock_types_1 Xoctet_Reader_Take Xabbr_At Xblock_marked K) (((k : Int), (), (), false, (), (), (h.tr.toNat : Int), (0 : Int), ()), tupHd h, ((), (), (), ByteArray.mk #[], (0 : Int), ()), ((), (), (), ByteArray.mk #[], h.v, ()), ((), false, ()), (B8 b, o, f), RV (List.replicate h.tr.toNat (0, 0)), ()) := fun o f => by
      cases hK : blockK h b k
      · rw [if_neg (by rw [hK]; simp)] at h2
        exact tL8 B o f (fun q => by rw [hK] at q; cases q) (fun _ => h2 rfl)
      · rw [if_pos ⟨s0, s1, hK⟩] at h1
        exact tL8 B o f (fun _ => h1 rfl) (fun q => by rw [hK] at q; cases q)
    refine tOpen b (by omega) fun f => ?_
    have hc : (0 : Int) ≤ h.tr ∧ h.tr ≤ h.tr ∧ h.tr ≤ 4294967296 := ⟨by omega, by omega, by omega⟩
    have hg := hh true f
    unfold tupHd at hg ⊢
    dsimp only
    rw [er, el]
    refine ⟨?_, ?_⟩
    · rw [if_pos hc]; exact ⟨hg, hg⟩
    · rw [if_pos hc]; exact hg
  · rw [if_pos (by simpa using s1)]
    rw [if_neg (fun q => s1 q.2.1)] at h2
    exact h2 rfl
end Go.Proofs.YtbnpclndiichcaaGreatDoor
end
section
set_option linter.unusedVariables false
set_option linter.unusedSimpArgs false
namespace Go.Proofs.YtbnpclndiichcaaGreatDoor
open Go Go.Proofs.YtbnpclndiichcaaGreatDoor.Eng Go.Proofs.YtbnpclndiichcaaGreatDoor.Pl
set_option linter.unusedVariables false
set_option linter.unusedSimpArgs false
set_option maxRecDepth 100000
set_option maxHeartbeats 4000000
theorem count_head (z : Zn) : countOk z = (((z.ty.map (·.2.2)).all abbrL && decide (poolN [] (z.ty.map (·.2.2)) ≤ 256)) && headOk (hdZ z)) := by
  have e := poolL_size (namesZ z)
  unfold countOk headOk hdZ
  dsimp only
  rw [e]
  unfold namesZ
  simp only [beq_self_eq_true, Bool.true_or, Bool.and_true, ← Bool.and_assoc]
theorem hdZ_tup (z : Zn) (c : Nat) (hc : (poolL (namesZ z)).1.length = c) : tupHd (hdZ z) = (z.v, 0, 0, (z.lp.length : Int), (z.tr.length : Int), (z.ty.length : Int), (c : Int), ()) := by
  unfold tupHd hdZ; dsimp only; rw [hc]
theorem tCountZ (z : Zn) (hz : ZI z) {K : Int × Int × Int × Int × Int × Int × Int × Unit → Bool → Prop} (h1 : countOk z = true → K (tupHd (hdZ z)) true) (h2 : countOk z = false → K (tupHd hd0) false) : Xblock_Count (tupZ z) K := by
  unfold Xblock_Count Yblock_Count
  rw [count_head] at h1 h2
  refine tpoolZ z hz (fun o y q => ?_) (fun q p a o y => ?_)
  · rw [if_neg (by simp)]
    rw [q, Bool.true_and] at h1 h2
    simp only [tupZ_eq, TV_len, RV_len, S_size]
    generalize hc : (poolL (z.ty.map (·.2.2))).1.length = c
    rw [← hdZ_tup z c hc]
    refine tHeadRight (hdZ z) ?_
    cases c : headOk (hdZ z)
    · rw [if_pos (show (!false) = true from rfl)]; exact h2 c
    · rw [if_neg (by simp)]; exact h1 c
  · rw [if_pos (show (!false) = true from rfl)]
    exact h2 (by rw [q]; rfl)
theorem blockB_le (z : Zn) (hz : ZI z) (k : Nat) (hk : k = 4 ∨ k = 8) : (blockB z k).length ≤ 100000 := by
  have pbd := poolG_bd (namesZ z) [] [] 100 (fun s hs => by
    obtain ⟨t, ht, rfl⟩ := List.mem_map.1 hs
    exact hz.nm t ht) (by simp)
  have hnl : (namesZ z).length = z.ty.length := by simp [namesZ]
  have h1 := pbd.1
  rw [hnl] at h1
  rw [block_len]
  unfold poolL
  have := hz.ty; have := hz.tr; have := hz.lp
  simp at h1
  rcases hk with rfl | rfl <;> omega
end Go.Proofs.YtbnpclndiichcaaGreatDoor
end
section
set_option linter.unusedVariables false
set_option linter.unusedSimpArgs false
namespace Go.Proofs.YtbnpclndiichcaaGreatDoor
open Go Go.Proofs.YtbnpclndiichcaaGreatDoor.Eng Go.Proofs.YtbnpclndiichcaaGreatDoor.Pl
set_option linter.unusedVariables false
set_option linter.unusedSimpArgs false
set_option maxRecDepth 100000
set_option maxHeartbeats 4000000
theorem sameZ_me (z : Zn) : sameZ z z = true := by unfold sameZ; simp
end Go.Proofs.YtbnpclndiichcaaGreatDoor
end
section
set_option linter.unusedVariables false
set_option linter.unusedSimpArgs false
namespace Go.Proofs.YtbnpclndiichcaaGreatDoor
open Go Go.Proofs.YtbnpclndiichcaaGreatDoor.Eng Go.Proofs.YtbnpclndiichcaaGreatDoor.Pl
set_option linter.unusedVariables false
set_option linter.unusedSimpArgs false
set_option maxRecDepth 100000
set_option maxHeartbeats 4000000
theorem trOk_kd (n : Nat) : ∀ (l : List Rec) (b : Option Int), trOk n b l = true → ∀ c ∈ l, 0 ≤ c.2 ∧ c.2 < n
  | [], b, h, c, hc => by cases hc
  | a :: r, b, h, c, hc => by
    rw [trOk.eq_def] at h
    simp only [Bool.and_eq_true] at h
    rcases List.mem_cons.1 hc with rfl | hc
    · exact of_decide_eq_true h.1.1
    · exact trOk_kd n r _ h.2 c hc
theorem recOk_corr : ∀ (l : List Rec) (k : Nat) (b : Rec) (m : Int), recOk k b l = true → -m ≤ b.2 ∧ b.2 ≤ m → ∀ c ∈ l, -(m + l.length) ≤ c.2 ∧ c.2 ≤ m + l.length
  | [], k, b, m, h, hb, c, hc => by cases hc
  | a :: r, k, b, m, h, hb, c, hc => by
    simp only [recOk, Bool.and_eq_true, Bool.or_eq_true, decide_eq_true_eq] at h
    obtain ⟨⟨⟨⟨_, _⟩, hs⟩, _⟩, hr⟩ := h
    have ha : -(m + 1) ≤ a.2 ∧ a.2 ≤ m + 1 := by
      rcases hs with (hs | hs) | hs
      · have := hs.1; omega
      · omega
      · omega
    rw [List.length_cons]
    rcases List.mem_cons.1 hc with rfl | hc
    · omega
    · have := recOk_corr r (k + 1) a (m + 1) hr ha c hc
      omega
theorem fits_1 {n : Int} (h : 0 ≤ n ∧ n < 256) : fits 1 n = true := by
  unfold fits; rw [if_pos rfl, decide_eq_true_eq]; exact h
theorem fits_4 {n : Int} (h : -2147483648 ≤ n ∧ n ≤ 2147483647) : fits 4 n = true := by
  unfold fits
  rw [if_neg (by decide), decide_eq_true_eq, show ((256 : Int) ^ 4) = 4294967296 by decide]; omega
theorem fits_8 {n : Int} (h : i64r n) : fits 8 n = true := by
  unfold i64r at h
  unfold fits
  rw [if_neg (by decide), decide_eq_true_eq, show ((256 : Int) ^ 8) = 18446744073709551616 by decide]; omega
theorem right_fits {z : Zn} (hz : ZI z) (hr : zoneRight z = true) : (blockR z 8).2 = true := by
  have hc := right_count hr
  have co := count_ok hc
  have ps := pool_small hc
  have hr' := hr
  unfold zoneRight at hr'
  simp only [Bool.and_eq_true] at hr'
  obtain ⟨⟨⟨⟨⟨_, h2⟩, _⟩, h4⟩, h5⟩, _⟩ := hr'
  have hf : blockF z 8 = true := by
    unfold blockF
    simp only [Bool.and_eq_true]
    refine ⟨⟨⟨?_, ?_⟩, ?_⟩, ?_⟩
    · exact List.all_eq_true.2 fun x hx => fits_8 (hz.ti x hx).1
    · refine List.all_eq_true.2 fun x hx => fits_1 ?_
      have := trOk_kd _ _ _ h5 x hx
      have := co.ty; omega
    · refine List.all_eq_true.2 fun x hx => ?_
      obtain ⟨m1, m2⟩ := zip_mem hx
      have := of_decide_eq_true (List.all_eq_true.1 h4 x.1 m1)
      rw [Bool.and_eq_true, Bool.and_eq_true]
      exact ⟨⟨fits_4 (by omega), by split <;> rfl⟩, ps _ m2⟩
    · refine List.all_eq_true.2 fun x hx => ?_
      have := recOk_corr z.lp 0 (-2419199, 0) 0 h2 (by decide) x hx
      have := hz.lp
      rw [Bool.and_eq_true]
      exact ⟨fits_8 (hz.ri x hx).1, fits_4 (by omega)⟩
  unfold blockR
  rw [if_pos ⟨hc, hf⟩]
theorem right_bare {z : Zn} (hr : zoneRight z = true) : zoneRight { z with ft := [] } = true := by
  unfold zoneRight at hr ⊢
  simp only [Bool.and_eq_true] at hr ⊢
  exact ⟨hr.1, rfl⟩
theorem lZoneBytes (z : Zn) (hg : ZG z) {K : Bool → Prop} (h : K true) : Xepactlaw19_ZoneBytes (tupZ z) K := by
  unfold Xepactlaw19_ZoneBytes Yepactlaw19_ZoneBytes
  refine zsmall (sFew z hg.tl (fun hf => ?_) ?_)
  · have hz := hg.zi hf
    rw [if_neg (by simp)]
    refine sRight z hz ?_
    cases hr : zoneRight z
    · rw [if_pos (show (!false) = true from rfl)]; exact h
    rw [if_neg (by simp)]
    have hb := right_fits hz hr
    have hc := right_count hr
    obtain ⟨w1, w2⟩ := blockR_ok hb
    refine tEncode z hz 8 (.inr rfl) fun o f => ?_
    rw [w2]
    refine tCountZ z hz (fun _ => ?_) (fun q => by rw [hc] at q; cases q)
    have bb := block_back (.inr rfl) hc w1
    have hbl := blockB_le z hz 8 (.inr rfl)
    obtain ⟨y, hy⟩ : ∃ y : Zn, y = { z with ft := [] } := ⟨_, rfl⟩
    rw [← hy] at bb
    have iy : ZI y := by rw [hy]; exact ⟨hz.ty, hz.tr, hz.lp, by show ([] : List UInt8).length ≤ 5000; simp, hz.nm, hz.ri, hz.ti, hz.v⟩
    have ry : zoneRight y = true := by rw [hy]; exact right_bare hr
    have ey : (TV y.ty, RV y.tr, RV y.lp, ByteArray.mk #[], y.v, ()) = tupZ y := by rw [hy]; rfl
    have ez : ((tupZ z).1, (tupZ z).2.1, (tupZ z).2.2.1, ByteArray.mk #[], (tupZ z).2.2.2.2) = tupZ y := by rw [hy]; rfl
    refine tBlockDecode (hdZ z) (blockB z 8) (by omega) 8 (.inr rfl) (fun _ => ?_) (fun q => by rw [bb] at q; cases q)
    rw [bb, if_pos rfl, if_pos rfl, if_pos rfl, if_pos rfl]
    dsimp only
    rw [ey]
    refine sRight y iy ?_
    rw [ry, if_pos rfl, ez]
    refine zSame y y iy iy ?_
    rw [sameZ_me]; exact h
  · rw [if_pos (show (!false) = true from rfl)]; exact h
end Go.Proofs.YtbnpclndiichcaaGreatDoor
end
section
set_option linter.unusedVariables false
set_option linter.unusedSimpArgs false
namespace Go.Proofs.YtbnpclndiichcaaGreatDoor
open Go Go.Proofs.YtbnpclndiichcaaGreatDoor.Eng Go.Proofs.YtbnpclndiichcaaGreatDoor.Pl
set_option linter.unusedVariables false
set_option linter.unusedSimpArgs false
theorem wfI {n : Int} (h : (Lit.int .i64 n).wf = true) : i64r n := by
  simp [Lit.wf, IntKind.min, IntKind.max, IntKind.bits, IntKind.signed] at h
  unfold i64r; omega
theorem zone_of (tys : List (Int × Bool × ByteArray × Unit)) (trs lps : List (Int × Int × Unit)) (ft : ByteArray) (v : Int) (h1 : tys.length ≤ 9223372036854775807)
    (h2 : ∀ c ∈ trs, (Lit.int .i64 c.1).wf = true ∧ (Lit.int .i64 c.2.1).wf = true ∧ True) (h3 : ∀ c ∈ lps, (Lit.int .i64 c.1).wf = true ∧ (Lit.int .i64 c.2.1).wf = true ∧ True) (h4 : (Lit.int .i64 v).wf = true) :
    ∃ z, ZG z ∧ ((tys.map fun x => V.agg [.c (.int .i64 x.1), .c (.bool x.2.1), .c (.string x.2.2.1)], trs.map fun x => V.agg [.c (.int .i64 x.1), .c (.int .i64 x.2.1)], lps.map fun x => V.agg [.c (.int .i64 x.1), .c (.int .i64 x.2.1)], ft, v, ()) : List V × List V × List V × ByteArray × Int × Unit) = tupZ z := by
  have rcI : ∀ l : List (Int × Int × Unit), (∀ c ∈ l, (Lit.int .i64 c.1).wf = true ∧ (Lit.int .i64 c.2.1).wf = true ∧ True) → recI (l.map fun c => (c.1, c.2.1)) := fun l hl c hc => by
    obtain ⟨d, hd, rfl⟩ := List.mem_map.1 hc
    exact ⟨wfI (hl d hd).1, wfI (hl d hd).2.1⟩
  refine ⟨⟨tys.map fun t => (t.1, t.2.1, t.2.2.1.data.toList), trs.map fun c => (c.1, c.2.1), lps.map fun c => (c.1, c.2.1), ft.data.toList, v⟩, ⟨rcI lps h3, rcI trs h2, wfI h4, by simpa using h1⟩, ?_⟩
  unfold tupZ
  simp only [List.map_map]
  rfl
abbrev akZ : AK := (.st (.cons (.sl (.st (.cons (.int .i64) (.cons .bool (.cons .str .nil))))) (.cons (.sl (.st (.cons (.int .i64) (.cons (.int .i64) .nil)))) (.cons (.sl (.st (.cons (.int .i64) (.cons (.int .i64) .nil)))) (.cons .str (.cons (.int .i64) .nil))))))
theorem zone_in (a : akZ.T) (h : akZ.good a) : ∃ z, ZG z ∧ (akZ.DV a : List V × List V × List V × ByteArray × Int × Unit) = tupZ z := by
  obtain ⟨tys, trs, lps, ft, v, u⟩ := a
  obtain ⟨h1, h2, h3, h4, h5, h6⟩ := h
  exact zone_of tys trs lps ft v h1.1 h2.2 h3.2 h5
end Go.Proofs.YtbnpclndiichcaaGreatDoor
end
section
set_option linter.unusedVariables false
set_option linter.unusedSimpArgs false
namespace Go.Proofs.YtbnpclndiichcaaGreatDoor
open Go Go.Proofs.YtbnpclndiichcaaGreatDoor.Eng Go.Proofs.YtbnpclndiichcaaGreatDoor.Pl
theorem pureZoneBytes : PureZoneBytes := by
  intro a0 h0
  obtain ⟨z, hz, e⟩ := zone_in a0 h0
  rw [show (akZoneBytes0.DV a0 : List V × List V × List V × ByteArray × Int × Unit) = tupZ z from e]
  exact lZoneBytes z hz rfl
end Go.Proofs.YtbnpclndiichcaaGreatDoor
end
