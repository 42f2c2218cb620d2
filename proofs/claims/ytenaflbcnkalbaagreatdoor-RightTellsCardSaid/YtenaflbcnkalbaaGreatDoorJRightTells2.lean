/- What the functions come to in plain data, with proofs, and what that answers. -/
import Derived.Test.YtenaflbcnkalbaaGreatDoorJRightTells1
section
set_option linter.unusedVariables false
set_option linter.unusedSimpArgs false
namespace Go.Proofs.YtenaflbcnkalbaaGreatDoor.Pl
open Go Go.Proofs.YtenaflbcnkalbaaGreatDoor.Eng
theorem right_steps {t : Tb} (h : rightT t = true) : ∀ l ∈ t.ls, l.2.1 = 1 ∨ l.2.1 = -1 := fun l hl => (checkG_all _ _ _ (right_0 h).1 l hl).2.2
structure CompOk (z : Zn) (t : Tb) (y : Zn) : Prop where
 lp : z.lp = []
 zr : zoneRight z = true
 tr : rightT t = true
 ro : recE (recAll z t) = 0
 al : z.tr.all (fun c => (shiftR z t.ls c.1).2) = true
 ri : rising (z.tr.map fun c => ((shiftR z t.ls c.1).1, c.2)) = true
 eq : y = ⟨z.ty, z.tr.map fun c => ((shiftR z t.ls c.1).1, c.2), recAll z t, z.ft, if t.has = true then 4 else z.v⟩
theorem stepsL_bd : ∀ (ls : List LR), (∀ l ∈ ls, l.2.1 = 1 ∨ l.2.1 = -1) → -(ls.length : Int) ≤ stepsL ls ∧ stepsL ls ≤ ls.length
 | [], _ => by simp [stepsL]
 | l :: r, h => by
  have := stepsL_bd r fun x hx => h x (.tail _ hx)
  have := h l (.head _)
  rw [stepsL_cons, List.length_cons]; omega
theorem right_len {t : Tb} (h : rightT t = true) : t.ls.length ≤ 200 := by
 have : ∀ (p : List LR) (k : Nat) (a : Int), (checkG k a p).2.1 = 0 → p = [] ∨ k + p.length ≤ 200 := by
  intro p
  induction p with
  | nil => intro k a _; exact .inl rfl
  | cons x p ih =>
   intro k a h
   rw [checkG] at h
   split at h
   ·rename_i hw; exact absurd h hw
   ·rename_i hw
    have hw : wrongL k x a = 0 := by omega
    obtain ⟨q0, _⟩ := wrongL_0 hw
    rcases ih _ _ h with rfl | h'
    ·right; simp; omega
    ·right; simp; omega
 rcases this _ _ _ (right_0 h).1 with e | e
 ·rw [e]; simp
 ·omega
theorem shiftS_cons (z : Zn) (l : LR) (r : List LR) (p : Int) : shiftS z (l :: r) p = (if instR z l ≤ p then l.2.1 else 0) + shiftS z r p := by
 unfold shiftS
 rw [List.filter_cons]
 by_cases h : instR z l ≤ p
 ·rw [if_pos (decide_eq_true h), if_pos h]; simp
 ·rw [if_neg (by simpa using h), if_neg h]; simp
theorem shiftS_bd (z : Zn) (p : Int) : ∀ (ls : List LR), (∀ l ∈ ls, l.2.1 = 1 ∨ l.2.1 = -1) → -(ls.length : Int) ≤ shiftS z ls p ∧ shiftS z ls p ≤ ls.length
 | [], _ => by simp [shiftS]
 | l :: r, h => by
  have := shiftS_bd z p r fun x hx => h x (.tail _ hx)
  have := h l (.head _)
  rw [shiftS_cons, List.length_cons]; split <;> omega
theorem shift_app (z : Zn) (p : Int) (a b : List LR) : shiftS z (a ++ b) p = shiftS z a p + shiftS z b p := by
 unfold shiftS; rw [List.filter_append, List.map_append, List.sum_append]
theorem right_rng {t : Tb} (h : rightT t = true) : ∀ l ∈ t.ls, 730 ≤ l.1 ∧ l.1 < 2932896 := fun l hl => ⟨(checkG_all _ _ _ (right_0 h).1 l hl).1, (checkG_all _ _ _ (right_0 h).1 l hl).2.1⟩
/-- Every kind of local time of a right zone is within bounds. -/
def offOk (z : Zn) : Prop := ∀ a, -89999 ≤ (lookZ z a).1 ∧ (lookZ z a).1 ≤ 93599
theorem inst_bd {z : Zn} (hz : offOk z) (l : LR) : midL l - 93599 ≤ instR z l ∧ instR z l ≤ midL l + 89999 := by
 have := hz (midL l - 1)
 unfold instR
 split <;> omega
theorem inst_pos {z : Zn} (hz : offOk z) {t : Tb} (h : rightT t = true) : ∀ l ∈ t.ls, 0 < instR z l ∧ instR z l < 300000000000 := fun l hl => by
 have := right_rng h l hl
 have := inst_bd hz l
 unfold midL at this
 omega
theorem recG_take (z : Zn) : ∀ (ls : List LR) (s : Int) (k : Nat), (recG z s ls).take k = recG z s (ls.take k)
 | _, _, 0 => by simp [recG]
 | [], s, k + 1 => by simp [recG]
 | l :: r, s, k + 1 => by rw [recG, List.take_succ_cons, List.take_succ_cons, recG, recG_take z r]
end Go.Proofs.YtenaflbcnkalbaaGreatDoor.Pl
end
section
set_option linter.unusedVariables false
set_option linter.unusedSimpArgs false
namespace Go.Proofs.YtenaflbcnkalbaaGreatDoor.Pl
open Go Go.Proofs.YtenaflbcnkalbaaGreatDoor.Eng
theorem stepT_of {t : Tb} (hst : ∀ l ∈ t.ls, l.2.1 = 1 ∨ l.2.1 = -1) : ∀ i, i < t.ls.length → stepT t.ls i = 1 ∨ stepT t.ls i = -1 := fun i h => by
 have := hst _ (List.getElem_mem h)
 unfold stepT
 rw [List.getD, List.getElem?_eq_getElem h]; exact this
theorem sumT_bd {t : Tb} (hst : ∀ l ∈ t.ls, l.2.1 = 1 ∨ l.2.1 = -1) (i : Nat) : -(t.ls.length : Int) ≤ sumT t.ls i ∧ sumT t.ls i ≤ t.ls.length := by
 have := stepsL_bd (t.ls.take i) fun l hl => hst l (List.mem_of_mem_take hl)
 have h2 : (t.ls.take i).length ≤ t.ls.length := by simp; omega
 unfold sumT; omega
theorem recAll_len (z : Zn) (t : Tb) : (recAll z t).length = t.ls.length + if t.has = true then 1 else 0 := by
 unfold recAll; rw [List.length_append, recG_len]; split <;> rfl
theorem recAll_lt (z : Zn) (t : Tb) (i : Nat) (h : i < t.ls.length) : (recAll z t).getD i (0, 0) = (instR z t.ls[i] + sumT t.ls i + min (stepT t.ls i) 0, sumT t.ls (i + 1)) := by
 have hl : (recG z 0 t.ls).length = t.ls.length := recG_len z _ _
 have h' : i < (recG z 0 t.ls).length := by omega
 unfold recAll
 rw [getD_app_lt _ _ _ _ h', List.getD, List.getElem?_eq_getElem h', Option.getD_some, recG_get z t.ls 0 i h h']
 simp
theorem recAll_end (z : Zn) (t : Tb) (h : t.has = true) : (recAll z t).getD t.ls.length (0, 0) = (t.ex + sumT t.ls t.ls.length, sumT t.ls t.ls.length) := by
 have hl : t.ls.length = (recG z 0 t.ls).length := (recG_len z _ _).symm
 unfold recAll sumT
 rw [if_pos h, List.take_length]
 simp only [List.getD]
 conv => lhs; rw [hl, List.getElem?_append_right (Nat.le_refl _)]
 simp
theorem look_off {z : Zn} (h : zoneRight z = true) (hf : ∀ p, z.ft ≠ [] → -89999 ≤ ((Ft.parse z.ft).1.look p).1 ∧ ((Ft.parse z.ft).1.look p).1 ≤ 89999) : offOk z := by
 intro a
 unfold zoneRight at h
 simp only [Bool.and_eq_true] at h
 obtain ⟨⟨⟨⟨⟨c, r⟩, e⟩, ty⟩, tr⟩, en⟩ := h
 have hty : ∀ t ∈ z.ty, -89999 ≤ t.1 ∧ t.1 ≤ 93599 := fun t ht => by simpa using List.all_eq_true.1 ty t ht
 unfold lookZ
 split
 ·rename_i h1; have := hf (posixR z a) h1.1; omega
 ·split
  ·cases hz : z.ty with
   | nil => simp
   | cons x y => exact hty x (by rw [hz]; exact .head _)
  ·rename_i c hc
   by_cases hlt : c.2.toNat < z.ty.length
   ·rw [List.getD, List.getElem?_eq_getElem hlt]; exact hty _ (List.getElem_mem hlt)
   ·rw [List.getD, List.getElem?_eq_none (by omega)]; simp
end Go.Proofs.YtenaflbcnkalbaaGreatDoor.Pl
namespace Go.Proofs.YtenaflbcnkalbaaGreatDoor.Pl
open Go Go.Proofs.YtenaflbcnkalbaaGreatDoor.Eng
def subR (z : Zn) (a : Int) : Int × Bool := if inI (a - sumR z.lp a) then (a - sumR z.lp a, true) else (0, false)
def stripR (z : Zn) : Zn × Int := if zoneRight z = true then (⟨(movedR z (subR z)).1.ty, (movedR z (subR z)).1.tr, [], (movedR z (subR z)).1.ft, (movedR z (subR z)).1.v⟩, (movedR z (subR z)).2) else (zn0, 1)
theorem rising_of : ∀ (l : List Rec), (∀ i (h : i + 1 < l.length), (l[i]).1 < (l[i + 1]).1) → rising l = true
 | [], _ => rfl
 | [_], _ => rfl
 | a :: b :: r, h => by
  rw [rising, Bool.and_eq_true, decide_eq_true_eq]
  exact ⟨h 0 (by simp), rising_of (b :: r) fun i hi => h (i + 1) (by simp at hi ⊢; omega)⟩
theorem foot_off {l : List UInt8} (h : (Ft.parse l).2 = true) (p : Int) : -89999 ≤ ((Ft.parse l).1.look p).1 ∧ ((Ft.parse l).1.look p).1 ≤ 89999 := by
 have hok := parse_ok l h
 have hok' := hok
 unfold Ft.ok at hok'
 rw [Bool.and_eq_true] at hok'
 unfold Ft.look
 split
 ·rename_i hs
  have hh : (Ft.parse l).1.has = true := hs.2.1.1
  have := hok'.2
  rw [if_pos hh, Bool.and_eq_true, Bool.and_eq_true] at this
  exact (kind_all.1 this.1.1).2.2
 ·exact (kind_all.1 hok'.1).2.2
theorem right_off {z : Zn} (h : zoneRight z = true) : offOk z := look_off h fun p hne => by
 unfold zoneRight at h
 simp only [Bool.and_eq_true] at h
 have en := h.2
 unfold endsOk at en
 rw [Bool.or_eq_true, List.isEmpty_iff, Bool.and_eq_true] at en
 exact foot_off (en.resolve_left hne).1 p
end Go.Proofs.YtenaflbcnkalbaaGreatDoor.Pl
end
section
set_option linter.unusedVariables false
set_option linter.unusedSimpArgs false
namespace Go.Proofs.YtenaflbcnkalbaaGreatDoor
open Go Go.Proofs.YtenaflbcnkalbaaGreatDoor.Eng Go.Proofs.YtenaflbcnkalbaaGreatDoor.Pl
set_option maxRecDepth 100000
set_option maxHeartbeats 2000000
def RV (l : List Rec) : List V := l.map eRec
def TV (l : List Ty) : List V := l.map eTy
theorem RV_len (l : List Rec) : (RV l).length = l.length := by simp [RV]
theorem TV_len (l : List Ty) : (TV l).length = l.length := by simp [TV]
theorem asR1 {l : List Rec} {i : Nat} (h : i < l.length) {F : Prop} {K : Int → Prop} (hk : K (l[i]).1) : Eng.asInt .i64 (getC (RV l) i 0) F K := by
 have : getC (RV l) i 0 = some (.c (.int .i64 (l[i]).1)) := by simp [getC, RV, eRec, V.cells, h]
 rw [this]; simpa [Eng.asInt] using hk
theorem asR2 {l : List Rec} {i : Nat} (h : i < l.length) {F : Prop} {K : Int → Prop} (hk : K (l[i]).2) : Eng.asInt .i64 (getC (RV l) i 1) F K := by
 have : getC (RV l) i 1 = some (.c (.int .i64 (l[i]).2)) := by simp [getC, RV, eRec, V.cells, h]
 rw [this]; simpa [Eng.asInt] using hk
theorem asT1 {l : List Ty} {i : Nat} (h : i < l.length) {F : Prop} {K : Int → Prop} (hk : K (l[i]).1) : Eng.asInt .i64 (getC (TV l) i 0) F K := by
 have : getC (TV l) i 0 = some (.c (.int .i64 (l[i]).1)) := by simp [getC, TV, eTy, V.cells, h]
 rw [this]; simpa [Eng.asInt] using hk
theorem asT2 {l : List Ty} {i : Nat} (h : i < l.length) {F : Prop} {K : Bool → Prop} (hk : K (l[i]).2.1) : Eng.asBool (getC (TV l) i 1) F K := by
 have : getC (TV l) i 1 = some (.c (.bool (l[i]).2.1)) := by simp [getC, TV, eTy, V.cells, h]
 rw [this]; simpa [Eng.asBool] using hk
theorem asT3 {l : List Ty} {i : Nat} (h : i < l.length) {F : Prop} {K : ByteArray → Prop} (hk : K (S (l[i]).2.2)) : Eng.asStr (getC (TV l) i 2) F K := by
 have : getC (TV l) i 2 = some (.c (.string (S (l[i]).2.2))) := by simp [getC, TV, eTy, V.cells, h]
 rw [this]; simpa [Eng.asStr] using hk
theorem w64_hi {n : Int} (h0 : 9223372036854775807 < n) (h1 : n ≤ 18446744073709551615) : w64 n = n - 18446744073709551616 := by
 simp only [w64, IntKind.wrap, IntKind.bits, IntKind.signed]
 try simp
 try omega
theorem w64_lo {n : Int} (h0 : -18446744073709551616 ≤ n) (h1 : n < -9223372036854775808) : w64 n = n + 18446744073709551616 := by
 simp only [w64, IntKind.wrap, IntKind.bits, IntKind.signed]
 try simp
 try omega
def i64r (n : Int) : Prop := -9223372036854775808 ≤ n ∧ n ≤ 9223372036854775807
instance (n : Int) : Decidable (i64r n) := inferInstanceAs (Decidable (_ ∧ _))
def recI (l : List Rec) : Prop := ∀ c ∈ l, i64r c.1 ∧ i64r c.2
theorem ssub (a b : Int) (ha : i64r a) (hb : i64r b) {K : Int → Bool → Prop} (h1 : i64r (a - b) → K (a - b) true) (h2 : ¬ i64r (a - b) → K 0 false) : Xnum_Sub a b K := by
 unfold Xnum_Sub Ynum_Sub
 unfold i64r at *
 simp only [lt]
 by_cases e : -9223372036854775808 ≤ a - b ∧ a - b ≤ 9223372036854775807
 ·rw [w64_in e.1 e.2]
  have : (!decide (a - b < a) == decide (b > 0)) = false := by
   by_cases hb0 : b > 0
   ·simp [hb0]; omega
   ·simp [hb0]; omega
  rw [this]
  exact h1 e
 ·by_cases hb0 : b > 0
  ·rw [w64_lo (by omega) (by omega)]
   have : (!decide (a - b + 18446744073709551616 < a) == decide (b > 0)) = true := by simp [hb0]; omega
   rw [this, if_pos rfl, if_pos (by simp; omega)]
   exact h2 e
  ·rw [w64_hi (by omega) (by omega)]
   have : (!decide (a - b - 18446744073709551616 < a) == decide (b > 0)) = true := by simp [hb0]; omega
   rw [this, if_pos rfl, if_pos (by simp; omega)]
   exact h2 e
theorem recOk_cons (k : Nat) (b c : Rec) (r : List Rec) : recOk k b (c :: r) = true ↔ (k ≤ 200 ∧ 0 ≤ c.1 ∧ ((c.2 - b.2 = 0 ∧ r = []) ∨ c.2 - b.2 = 1 ∨ c.2 - b.2 = -1) ∧ (k = 0 ∨ ((c.2 - b.2 = 0 ∧ r = []) ∧ c.1 - b.1 ≥ 0) ∨ (¬ (c.2 - b.2 = 0 ∧ r = []) ∧ c.1 - b.1 ≥ 2419199))) ∧ recOk (k + 1) c r = true := by
 rw [recOk]
 simp only [Bool.and_eq_true, Bool.or_eq_true, decide_eq_true_eq, List.isEmpty_iff]
 by_cases he : c.2 - b.2 = 0 ∧ r = []
 ·simp only [he, and_self, if_true, true_or, true_and, not_true, false_and, or_false]
  constructor
  ·rintro ⟨⟨⟨⟨h1, h2⟩, _⟩, h4⟩, h5⟩; exact ⟨⟨h1, h2, h4⟩, h5⟩
  ·rintro ⟨⟨h1, h2, h4⟩, h5⟩; exact ⟨⟨⟨⟨h1, h2⟩, trivial⟩, h4⟩, h5⟩
 ·simp only [he, false_or, if_false, false_and, not_false_iff, true_and]
  constructor
  ·rintro ⟨⟨⟨⟨h1, h2⟩, h3⟩, h4⟩, h5⟩; exact ⟨⟨h1, h2, h3, h4⟩, h5⟩
  ·rintro ⟨⟨h1, h2, h3, h4⟩, h5⟩; exact ⟨⟨⟨⟨h1, h2⟩, h3⟩, h4⟩, h5⟩
theorem sRecRight (l : List Rec) (hi : recI l) (hlen : l.length ≤ 100000) {K : Bool → Prop} (h : K (recRight l)) : Xrecord_Right (RV l) K := by
 unfold Xrecord_Right Yrecord_Right Xrecord_Check Yrecord_Check
 rw [RV_len]
 refine lp_ind (fun x => (l.length : Nat) - x.1.2.2.2.2.2.2.1.toNat) (fun x => ∃ (j : Nat) (b : Rec), j ≤ l.length ∧ x = ((RV l, (0 : Int), (0 : Int), (), RV l, (l.length : Int), (j : Int), ()), (b.1, b.2, ()), ()) ∧ recOk j b (l.drop j) = recRight l ∧ (0 < j → 0 ≤ b.1) ∧ i64r b.1 ∧ i64r b.2) ?_ ⟨0, (-2419199, 0), by omega, rfl, rfl, by omega, by unfold i64r; decide, by unfold i64r; decide⟩
 rintro x ⟨j, b, hj, rfl, hok, hb0, hb1, hb2⟩ k hk
 unfold Lrecord_Check_0
 simp only [decide_eq_true_eq, RV_len]
 by_cases e : j = l.length
 ·rw [if_neg (by omega)]
  have : recRight l = true := by rw [← hok, e, List.drop_length]; rfl
  rw [this] at h
  exact h
 ·have hj' : j < l.length := by omega
  obtain ⟨hc1, hc2⟩ := hi l[j] (List.getElem_mem hj')
  rw [Int.toNat_natCast, if_pos (by omega), if_pos (by omega)]
  refine asR1 hj' (asR2 hj' ?_)
  have hd : l.drop j = l[j] :: l.drop (j + 1) := List.drop_eq_getElem_cons hj'
  rw [hd] at hok
  have hre : l.drop (j + 1) = [] ↔ j + 1 = l.length := by rw [List.drop_eq_nil_iff]; omega
  have hcons := recOk_cons j b l[j] (l.drop (j + 1))
  rw [hre, hok] at hcons
  generalize l[j] = c at *
  have e1 : w64 ((j : Int) + 1) = ((j + 1 : Nat) : Int) := by rw [w64_in (by omega) (by omega)]; omega
  have e2 : w64 ((l.length : Int) - 1) = (l.length : Int) - 1 := w64_in (by omega) (by omega)
  have bad : ¬ (j ≤ 200 ∧ 0 ≤ c.1 ∧ ((c.2 - b.2 = 0 ∧ j + 1 = l.length) ∨ c.2 - b.2 = 1 ∨ c.2 - b.2 = -1) ∧ (j = 0 ∨ ((c.2 - b.2 = 0 ∧ j + 1 = l.length) ∧ c.1 - b.1 ≥ 0) ∨ (¬ (c.2 - b.2 = 0 ∧ j + 1 = l.length) ∧ c.1 - b.1 ≥ 2419199))) → K false := fun hn => by
   have : recRight l = false := by
    cases hr : recRight l
    ·rfl
    ·exact absurd (hcons.1 hr).1 hn
   rw [this] at h; exact h
  have good : (j ≤ 200 ∧ 0 ≤ c.1 ∧ ((c.2 - b.2 = 0 ∧ j + 1 = l.length) ∨ c.2 - b.2 = 1 ∨ c.2 - b.2 = -1) ∧ (j = 0 ∨ ((c.2 - b.2 = 0 ∧ j + 1 = l.length) ∧ c.1 - b.1 ≥ 0) ∨ (¬ (c.2 - b.2 = 0 ∧ j + 1 = l.length) ∧ c.1 - b.1 ≥ 2419199))) →
    k ((RV l, (0 : Int), (0 : Int), (), RV l, (l.length : Int), ((j + 1 : Nat) : Int), ()), (c.1, c.2, ()), ()) := fun hg => by
   refine hk _ ⟨j + 1, c, by omega, rfl, ?_, fun _ => hg.2.1, hc1, hc2⟩ ?_
   ·rw [Bool.eq_iff_iff]
    exact ⟨fun hr => hcons.2 ⟨hg, hr⟩, fun hr => (hcons.1 hr).2⟩
   ·show l.length - ((j + 1 : Nat) : Int).toNat < l.length - ((j : Nat) : Int).toNat
    omega
  clear hcons hok hk h hd hre
  rw [e1, e2]
  have ew : 0 < j → 0 ≤ c.1 → w64 (c.1 - b.1) = c.1 - b.1 := fun h1 h2 => by
   have := hb0 h1
   unfold i64r at *
   exact w64_in (by omega) (by omega)
  refine ssub c.2 b.2 hc2 hb2 (fun hf => ?_) fun hf => ?_
  ·generalize c.2 - b.2 = s at *
   simp only [if_true, beq_iff_eq, Bool.not_eq_true', beq_eq_false_iff_ne, ne_eq, bne_iff_ne, not_true, if_false, Bool.not_true, Bool.false_eq_true]
   repeat' split
   all_goals first
    |(refine bad ?_; omega)
    |(refine good ?_; omega)
    |(refine bad ?_; rw [ew (by omega) (by omega)] at *; omega)
    |(refine good ?_; rw [ew (by omega) (by omega)] at *; omega)
  ·simp only [if_true, if_false, Bool.not_false, Bool.false_eq_true]
   unfold i64r at hf
   repeat' split
   all_goals (refine bad ?_; omega)
end Go.Proofs.YtenaflbcnkalbaaGreatDoor
end
section
set_option linter.unusedVariables false
set_option linter.unusedSimpArgs false
namespace Go.Proofs.YtenaflbcnkalbaaGreatDoor
open Go Go.Proofs.YtenaflbcnkalbaaGreatDoor.Eng Go.Proofs.YtenaflbcnkalbaaGreatDoor.Pl
theorem sHasPrefix (l : List UInt8) (c : UInt8) {K} (h : K (l.head? == some c)) : Xinternal_stringslite_HasPrefix (S l) (S [c]) K := by
 unfold Xinternal_stringslite_HasPrefix Yinternal_stringslite_HasPrefix
 simp only [S_size, S_extract, S_toList, decide_eq_true_eq, ge_iff_le, List.length_singleton]
 cases l with
 | nil => exact ifF (by simp) h
 | cons a l =>
  refine ifT (by simp; omega) (ifT (by simp; omega) ?_)
  have e : ((List.take (Int.toNat (((1 : Nat) : Int)) - 0) (List.drop 0 (a :: l)) == [c]) : Bool) = ((a :: l).head? == some c) := by
   simp
  rw [e]; exact h
theorem sCutPrefix (l : List UInt8) (c : UInt8) {K} (h : K (S (cutP c l).1) (cutP c l).2) : Xstrings_CutPrefix (S l) (S [c]) K := by
 unfold Xstrings_CutPrefix Ystrings_CutPrefix Xinternal_stringslite_CutPrefix Yinternal_stringslite_CutPrefix
 refine sHasPrefix l c ?_
 unfold cutP at h
 by_cases e : l.head? = some c
 ·rw [if_pos e] at h
  refine ifF (by simp [e]) ?_
  have hl : 1 ≤ l.length := by cases l <;> simp at e ⊢
  simp only [S_size, S_extract, List.length_singleton]
  refine ifT (by omega) (ifT (by omega) ?_)
  have e2 : (l.drop (Int.toNat ((1 : Nat) : Int))).take (Int.toNat (l.length : Int) - Int.toNat ((1 : Nat) : Int)) = l.tail := by
   rw [List.take_of_length_le (by simp)]; simp
  rw [e2]; exact h
 ·rw [if_neg e] at h
  exact ifT (by simp [e]) h
theorem sIndex (l : List UInt8) (c : UInt8) {K} (h : K (if nl (· == c) l < l.length then (nl (· == c) l : Int) else -1)) : Xinternal_stringslite_Index (S l) (S [c]) K := by
 unfold Xinternal_stringslite_Index Yinternal_stringslite_Index
 simp only [S_size, S_toList, beq_iff_eq, List.length_singleton]
 refine ifF (by decide) (ifC (fun e => ?_) fun _ => ifT rfl (ifT (by decide) ?_))
 ·subst e
  have : nl (· == c) [c] = 0 := by rw [nl_cons]; simp
  rw [this] at h; exact h
 ·unfold XindexByte
  rw [indexByte_nl, S_data]
  have : (Eng.bAt (S [c]) 0).toNat.toUInt8 = c := by rw [bAt0]; simp
  rw [this]; exact h
theorem sCut (l : List UInt8) (c : UInt8) (hl : l.length ≤ 140737488351232) {K} (h : K (S (splitL c l).1) (S (splitL c l).2.1) (splitL c l).2.2) : Xstrings_Cut (S l) (S [c]) K := by
 unfold Xstrings_Cut Ystrings_Cut Xinternal_stringslite_Cut Yinternal_stringslite_Cut
 refine sIndex l c ?_
 unfold splitL at h
 simp only [S_size, S_extract, List.length_singleton, decide_eq_true_eq, ge_iff_le]
 by_cases e : nl (· == c) l < l.length
 ·rw [if_pos e] at h
  simp only [if_pos e]
  rw [w64_in (by omega) (by omega)]
  refine ifT (by omega) (ifT (by omega) (ifT (by omega) (ifT (by omega) (ifT (by omega) ?_))))
  have e1 : Int.toNat ((nl (· == c) l : Int) + ((1 : Nat) : Int)) = nl (· == c) l + 1 := by omega
  have e2 : Int.toNat ((nl (· == c) l : Int)) = nl (· == c) l := by omega
  rw [e1, e2]
  rw [show (l.drop (nl (· == c) l + 1)).take (Int.toNat (l.length : Int) - (nl (· == c) l + 1)) = l.drop (nl (· == c) l + 1) from List.take_of_length_le (by simp)]
  exact h
 ·rw [if_neg e] at h
  simp only [if_neg e]
  exact ifF (by omega) h
theorem sTrimPrefix (l : List UInt8) (c : UInt8) {K} (h : K (S (cutP c l).1)) : Xstrings_TrimPrefix (S l) (S [c]) K := by
 unfold Xstrings_TrimPrefix Ystrings_TrimPrefix Xinternal_stringslite_TrimPrefix Yinternal_stringslite_TrimPrefix
 refine sHasPrefix l c ?_
 unfold cutP at h
 by_cases e : l.head? = some c
 ·rw [if_pos e] at h
  refine ifT (by simp [e]) ?_
  have hl : 1 ≤ l.length := by cases l <;> simp at e ⊢
  simp only [S_size, S_extract, List.length_singleton]
  refine ifT (by omega) (ifT (by omega) ?_)
  have e2 : (l.drop (Int.toNat ((1 : Nat) : Int))).take (Int.toNat (l.length : Int) - Int.toNat ((1 : Nat) : Int)) = l.tail := by
   rw [List.take_of_length_le (by simp)]; simp
  rw [e2]; exact h
 ·rw [if_neg e] at h
  exact ifF (by simp [e]) h
theorem sIndexFunc {x : Int → (Bool → Prop) → Prop} (q : UInt8 → Bool) (hx : ∀ (c : UInt8) (K : Bool → Prop), c.toNat < 128 → K (q c) → x (c.toNat : Int) K) (hx' : ∀ (n : Nat) (K : Bool → Prop), 128 ≤ n → K true → x (n : Int) K)
  (hq : ∀ c : UInt8, 128 ≤ c.toNat → q c = true) (l : List UInt8) {K : Int → Prop} (h : K (if nl q l < l.length then (nl q l : Int) else -1)) : Ystrings_indexFunc x (S l) true K := by
 unfold Ystrings_indexFunc
 refine lp_ind (fun st => l.length - st.2.1.2) (fun st => st.1.2.1 = true ∧ st.2.1.1 = S l ∧ st.2.1.2 ≤ l.length ∧ ∀ c ∈ l.take st.2.1.2, q c = false) ?_ ⟨rfl, rfl, Nat.zero_le _, by simp⟩
 rintro ⟨⟨⟨_, _⟩, b, r, _, _⟩, ⟨s, pos⟩, _⟩ ⟨h1, h2, h3, h4⟩ k hk
 simp only at h1 h2 h3 h4 hk
 subst h1; subst h2
 unfold Lstrings_indexFunc_0
 simp only [S_size]
 refine ifC (fun hp => ?_) fun hp => ?_
 ·by_cases hlo : l[pos].toNat < 128
  ·simp only [decode_lo l pos hp hlo]
   refine hx _ _ hlo ?_
   refine ifC (fun hb => ?_) fun hb => ?_
   ·have hn : nl q l = pos := nl_of q l pos h3 h4 fun _ => by simpa using hb
    rw [hn, if_pos hp] at h; exact h
   ·refine hk _ ⟨rfl, rfl, hp, fun c hc => ?_⟩ (by simp only; omega)
    rw [List.take_add_one, List.mem_append] at hc
    rcases hc with hc | hc
    ·exact h4 c hc
    ·simp [List.getElem?_eq_getElem hp] at hc
     subst hc; simpa using hb
  ·obtain ⟨d1, d2⟩ := decode_hi l pos hp (by omega)
   refine hx' _ _ d1 (ifT rfl ?_)
   have hn : nl q l = pos := nl_of q l pos h3 h4 fun _ => hq _ (by omega)
   rw [hn, if_pos hp] at h; exact h
 ·have hpos : pos = l.length := by omega
  have hn : nl q l = l.length := nl_of q l _ (Nat.le_refl _) (by rw [← hpos]; exact h4) fun h => by omega
  rw [hn, if_neg (by omega)] at h; exact h
theorem sgood (n : Int) {K} (h : K (decide ((97 ≤ n ∧ n ≤ 122) ∨ (65 ≤ n ∧ n ≤ 90) ∨ (48 ≤ n ∧ n ≤ 57) ∨ n = 43 ∨ n = 45))) : Xabbr_good n K := by
 unfold Xabbr_good Yabbr_good
 simp only [decide_eq_true_eq, beq_iff_eq, ge_iff_le]
 repeat' (first | refine ifT (by omega) ?_ | refine ifF (by omega) ?_ | refine ifC (fun _ => ?_) (fun _ => ?_))
 all_goals (refine cast (congrArg K ?_) h; first | (rw [decide_eq_true_eq]; omega) | (rw [decide_eq_false_iff_not]; omega) | (apply Bool.eq_iff_iff.2; rw [decide_eq_true_eq, beq_iff_eq]; omega))
theorem sbad (n : Int) {K} (h : K (!decide ((97 ≤ n ∧ n ≤ 122) ∨ (65 ≤ n ∧ n ≤ 90) ∨ (48 ≤ n ∧ n ≤ 57) ∨ n = 43 ∨ n = 45))) : Xabbr_Right_1 n K := by
 unfold Xabbr_Right_1 Yabbr_Right_1
 exact sgood n h
theorem sabbr (l : List UInt8) {K} (h : K (abbrL l)) : Xabbr_Right (S l) K := by
 unfold Xabbr_Right Yabbr_Right
 unfold abbrL at h
 simp only [decide_eq_true_eq, ge_iff_le, S_size]
 by_cases e : 3 ≤ l.length ∧ l.length ≤ 16
 ·refine ifT (by omega) (ifT (by omega) ?_)
  unfold Xstrings_ContainsFunc Ystrings_ContainsFunc Xstrings_IndexFunc Ystrings_IndexFunc Xstrings_indexFunc
  refine sIndexFunc badC (fun c K hc h => sbad _ (cast (congrArg K ?_) h)) (fun n K hn h => sbad _ (cast (congrArg K ?_) h)) (fun c hc => ?_) l ?_
  ·unfold badC; apply Bool.eq_iff_iff.2; simp; omega
  ·symm; simp; omega
  ·unfold badC; simp; omega
  ·rw [decide_eq_true e, Bool.true_and, nl_any] at h
   by_cases e2 : nl badC l < l.length
   ·rw [if_pos e2]; rw [decide_eq_true e2] at h
    refine cast (congrArg K ?_) h; simp
   ·rw [if_neg e2]; rw [decide_eq_false e2] at h
    refine cast (congrArg K ?_) h; simp
 ·rw [decide_eq_false e, Bool.false_and] at h
  exact ifC (fun _ => ifF (by omega) h) fun _ => h
end Go.Proofs.YtenaflbcnkalbaaGreatDoor
end
section
set_option linter.unusedVariables false
set_option linter.unusedSimpArgs false
namespace Go.Proofs.YtenaflbcnkalbaaGreatDoor
open Go Go.Proofs.YtenaflbcnkalbaaGreatDoor.Eng Go.Proofs.YtenaflbcnkalbaaGreatDoor.Pl
theorem dl_of (l : List UInt8) (k : Nat) (hk : k ≤ l.length) (h1 : ∀ c ∈ l.take k, isDig c = true) (h2 : ∀ h : k < l.length, isDig l[k] = false) : dl l = k := by
 have := nl_of (fun c => !isDig c) l k hk (fun c hc => by simp [h1 c hc]) (fun h => by simp [h2 h])
 rw [← this]; unfold nl dl; simp
theorem sdigits (l : List UInt8) {K} (h : K (dl l : Int)) : Xrule_digits (S l) K := by
 unfold Xrule_digits Yrule_digits
 refine lp_ind (fun st => l.length - st.2.1.2) (fun st => st.1.1 = S l ∧ st.2.1.1 = S l ∧ st.2.1.2 ≤ l.length ∧ ∀ c ∈ l.take st.2.1.2, isDig c = true) ?_ ⟨rfl, rfl, Nat.zero_le _, by simp⟩
 rintro ⟨⟨a0, r, _, _⟩, ⟨s, pos⟩, _⟩ ⟨h1, h2, h3, h4⟩ k hk
 simp only at h1 h2 h3 h4 hk
 subst h1; subst h2
 unfold Lrule_digits_0
 simp only [S_size, decide_eq_true_eq, gt_iff_lt]
 refine ifC (fun hp => ?_) fun hp => ?_
 ·by_cases hlo : l[pos].toNat < 128
  ·simp only [decode_lo l pos hp hlo]
   by_cases hd : isDig l[pos] = true
   ·have hd' := hd
    unfold isDig at hd'
    simp at hd'
    refine ifF (by omega) (ifF (by omega) ?_)
    refine hk _ ⟨rfl, rfl, hp, fun c hc => ?_⟩ (by simp only; omega)
    rw [List.take_add_one, List.mem_append] at hc
    rcases hc with hc | hc
    ·exact h4 c hc
    ·simp [List.getElem?_eq_getElem hp] at hc
     subst hc; exact hd
   ·have hn : dl l = pos := dl_of l pos h3 h4 fun _ => by simpa using hd
    have hd' := hd
    unfold isDig at hd'
    simp at hd'
    rw [hn] at h
    exact ifC (fun _ => h) fun _ => ifT (by omega) h
  ·obtain ⟨d1, d2⟩ := decode_hi l pos hp (by omega)
   have hn : dl l = pos := dl_of l pos h3 h4 fun _ => by unfold isDig; simp; omega
   rw [hn] at h
   exact ifF (by omega) (ifT (by omega) h)
 ·have hpos : pos = l.length := by omega
  have hn : dl l = l.length := dl_of l _ (Nat.le_refl _) (by rw [← hpos]; exact h4) fun h => by omega
  rw [hn] at h; exact h
theorem satoi (l : List UInt8) (hne : l ≠ []) (hd : ∀ c ∈ l, isDig c = true) (hl : l.length ≤ 18) {K} (h : K (valL l : Int) .nilIface) : Xatoi (S l) K :=
 ⟨_, by rw [S_size]; exact hl, by rw [S_data]; exact atoi_val l hne hd, h⟩
theorem ssixty (l : List UInt8) {K} (h : K (sixtyL l).1 (S (sixtyL l).2.1) (sixtyL l).2.2) : Xrule_sixty (S l) K := by
 unfold Xrule_sixty Yrule_sixty
 simp only [S_size, S_extract, decide_eq_true_eq, gt_iff_lt, bne_iff_ne, ne_eq]
 match l, h with
 | [], h => exact ifT (by simp) h
 | [_], h => exact ifT (by simp) h
 | [_, _], h => exact ifT (by simp) h
 | c :: a :: b :: r, h =>
  have hlen : (c :: a :: b :: r).length = r.length + 3 := rfl
  rw [hlen]
  refine ifF (by omega) (ifT (by omega) ?_)
  rw [bAt0, bAt1]
  simp only [sixtyL] at h
  by_cases hc : c = 58
  ·subst hc
   refine ifF (by simp) (ifT (by omega) (ifT (by omega) ?_))
   have e1 : ((58 :: a :: b :: r).drop 1).take (Int.toNat ((r.length + 3 : Nat) : Int) - 1) = a :: b :: r := by
    rw [List.drop_succ_cons, List.drop_zero, List.take_of_length_le (by simp; omega)]
   rw [e1]
   refine sdigits _ ?_
   rw [dl_cons, dl_cons]
   by_cases ha : isDig a = true
   ·by_cases hb : isDig b = true
    ·rw [if_pos ha, if_pos hb]
     refine ifF (by omega) (ifT (by omega) ?_)
     by_cases h5 : a.toNat ≤ 53
     ·rw [if_pos ⟨rfl, ha, hb, h5⟩] at h
      refine ifF (by omega) (ifT (by omega) ?_)
      have e2 : ((58 :: a :: b :: r).drop 1).take (3 - 1) = [a, b] := rfl
      rw [e2]
      refine satoi [a, b] (by simp) (by simp [ha, hb]) (by simp) (ifT (by omega) (ifT (by omega) ?_))
      have e3 : ((58 :: a :: b :: r).drop 3).take (Int.toNat ((r.length + 3 : Nat) : Int) - 3) = r := by
       rw [show (58 :: a :: b :: r).drop 3 = r from rfl, List.take_of_length_le (by omega)]
      rw [e3]
      unfold isDig at ha hb
      simp at ha hb
      have e4 : (valL [a, b] : Int) = 10 * (a.toNat - 48) + (b.toNat - 48) := by simp [valL]; omega
      rw [e4]; exact h
     ·rw [if_neg (by rintro ⟨_, _, _, h⟩; exact h5 h)] at h
      exact ifT (by omega) h
    ·rw [if_neg (by rintro ⟨_, _, h, _⟩; exact hb h)] at h
     rw [if_pos ha, if_neg hb]
     exact ifT (by omega) h
   ·rw [if_neg (by rintro ⟨_, h, _⟩; exact ha h)] at h
    rw [if_neg ha]
    exact ifT (by omega) h
  ·rw [if_neg (by rintro ⟨h, _⟩; exact hc h)] at h
   refine ifT (fun h => hc (u8_eq ?_)) h
   have : c.toNat = 58 := by omega
   exact this
theorem smore (p : Int × List UInt8 × Bool) {K} (h : K (moreL p).1 (S (moreL p).2.1) (moreL p).2.2) : Xrule_more (S p.2.1) p.2.2 K := by
 unfold Xrule_more Yrule_more
 unfold moreL at h
 by_cases e : p.2.2 = true
 ·rw [if_pos e] at h
  exact ifF (by simp [e]) (ssixty _ h)
 ·rw [if_neg e] at h
  exact ifT (by simpa using e) h
theorem more_bd (t : List UInt8) : 0 ≤ (moreL (sixtyL t)).1 ∧ (moreL (sixtyL t)).1 ≤ 59 := by
 unfold moreL; split
 ·exact sixty_bd _
 ·simp
theorem stime (l : List UInt8) (hl : l.length ≤ 140737488351232) {K} (h : K (timeL l).1 (S (timeL l).2.1) (timeL l).2.2) : Xrule_Time (S l) K := by
 unfold Xrule_Time Yrule_Time
 have key : ∀ (t : List UInt8) (sg : Int), (sg = 1 ∨ sg = -1) → t.length ≤ l.length → signL l = (sg, t) →
   (dl t = 0 → K 0 (S l) false) ∧ (dl t ≠ 0 → ∃ v k : Nat, hourL t = (v, k) ∧ v ≤ 167 ∧ 1 ≤ k ∧ k ≤ dl t ∧ k ≤ 3 ∧
    K (sg * ((v : Int) * 3600 + (sixtyL (t.drop k)).1 * 60 + (moreL (sixtyL (t.drop k))).1)) (S (moreL (sixtyL (t.drop k))).2.1) true) := by
  intro t sg hsg ht he
  unfold timeL at h
  rw [he] at h
  refine ⟨fun h0 => by rw [if_pos h0] at h; exact h, fun h0 => ?_⟩
  rw [if_neg h0] at h
  obtain ⟨b1, b2, b3, b4⟩ := hour_bd t
  exact ⟨_, _, rfl, b1, b4 h0, b2, b3, h⟩
 have mn : ∀ t : List UInt8, (if (3 : Int) < (dl t : Int) then (3 : Int) else (dl t : Int)) = ((min (dl t) 3 : Nat) : Int) := fun t => by split <;> omega
 have hval : ∀ t : List UInt8, dl t ≠ 0 → ∀ {K : Int → Value → Prop}, K (valL (t.take (min (dl t) 3)) : Int) .nilIface → Xatoi (S ((t.drop 0).take (Int.toNat ((min (dl t) 3 : Nat) : Int) - 0))) K := fun t h0 K hK => by
  rw [List.drop_zero, Nat.sub_zero, Int.toNat_natCast]
  have hlen : (t.take (min (dl t) 3)).length = min (dl t) 3 := by rw [List.length_take]; have := dl_le t; omega
  exact satoi _ (fun e => by rw [e] at hlen; simp at hlen; omega) (take_dl_dig t _ (Nat.min_le_left _ _)) (by omega) hK
 have tdiv : ∀ v : Nat, Int.tdiv (v : Int) 10 = ((v / 10 : Nat) : Int) := fun v => by rw [Int.tdiv_eq_ediv_of_nonneg (by omega)]; rfl
 have fin : ∀ (t : List UInt8) (k : Nat), (t.drop k).take (t.length - k) = t.drop k := fun t k => List.take_of_length_le (by simp)
 refine sTrimPrefix l 45 ?_
 by_cases h45 : l.head? = some 45
 ·obtain ⟨t, rfl⟩ : ∃ t, l = 45 :: t := by cases l with
   | nil => simp at h45
   | cons a t => simp at h45; subst h45; exact ⟨t, rfl⟩
  have e : (cutP 45 (45 :: t)).1 = t := rfl
  rw [e]
  obtain ⟨k1, k2⟩ := key t (-1) (.inr rfl) (by simp) rfl
  have hdl := dl_le t
  simp only [S_size, S_extract, beq_iff_eq, decide_eq_true_eq, gt_iff_lt]
  simp only [List.length_cons] at hl ⊢
  refine ifF (by omega) (sdigits _ ?_)
  rw [mn]
  refine ifC (fun h0 => k1 (by omega)) fun h0 => ?_
  have h0' : dl t ≠ 0 := by omega
  obtain ⟨v, kk, hh, b1, b2, b3, b4, hK⟩ := k2 h0'
  refine ifT (by omega) (ifT (by omega) (hval t h0' ?_))
  unfold hourL at hh
  by_cases hg : valL (t.take (min (dl t) 3)) > 167
  ·rw [if_pos hg] at hh
   obtain ⟨rfl, rfl⟩ : _ = v ∧ _ = kk := by simpa using hh
   refine ifT (by omega) (ifT (by omega) ?_)
   rw [w64_in (n := ((min (dl t) 3 : Nat) : Int) - 1) (by omega) (by omega), show ((min (dl t) 3 : Nat) : Int) - 1 = ((min (dl t) 3 - 1 : Nat) : Int) by omega]
   refine ifT (by omega) ?_
   simp only [lt, Int.toNat_natCast, fin, tdiv]
   refine ssixty _ (smore _ ?_)
   have hs := sixty_bd (t.drop (min (dl t) 3 - 1))
   have hm := more_bd (t.drop (min (dl t) 3 - 1))
   generalize valL (t.take (min (dl t) 3)) / 10 = v at *
   generalize (sixtyL (t.drop (min (dl t) 3 - 1))).1 = a at *
   generalize (moreL (sixtyL (t.drop (min (dl t) 3 - 1)))).1 = b at *
   rw [w64_in (n := (v : Int)) (by omega) (by omega), w64_in (n := (v : Int) * 3600) (by omega) (by omega), w64_in (n := a * 60) (by omega) (by omega), w64_in (n := (v : Int) * 3600 + a * 60) (by omega) (by omega), w64_in (n := (v : Int) * 3600 + a * 60 + b) (by omega) (by omega), w64_in (by omega) (by omega)]
   exact hK
  ·rw [if_neg hg] at hh
   obtain ⟨rfl, rfl⟩ : _ = v ∧ _ = kk := by simpa using hh
   refine ifF (by omega) (ifT (by omega) (ifT (by omega) ?_))
   simp only [lt, Int.toNat_natCast, fin]
   refine ssixty _ (smore _ ?_)
   have hs := sixty_bd (t.drop (min (dl t) 3))
   have hm := more_bd (t.drop (min (dl t) 3))
   generalize valL (t.take (min (dl t) 3)) = v at *
   generalize (sixtyL (t.drop (min (dl t) 3))).1 = a at *
   generalize (moreL (sixtyL (t.drop (min (dl t) 3)))).1 = b at *
   rw [w64_in (n := (v : Int) * 3600) (by omega) (by omega), w64_in (n := a * 60) (by omega) (by omega), w64_in (n := (v : Int) * 3600 + a * 60) (by omega) (by omega), w64_in (n := (v : Int) * 3600 + a * 60 + b) (by omega) (by omega), w64_in (by omega) (by omega)]
   exact hK
 ·have e : (cutP 45 l).1 = l := by unfold cutP; rw [if_neg h45]
  rw [e]
  refine ifT (by simp) (sTrimPrefix l 43 ?_)
  have hs : ∃ t, signL l = (1, t) ∧ (cutP 43 l).1 = t ∧ t.length ≤ l.length := by
   unfold signL cutP
   cases l with
   | nil => exact ⟨[], rfl, rfl, Nat.le_refl _⟩
   | cons a r =>
    have ha : a ≠ 45 := by simpa using h45
    simp only [if_neg ha, List.head?_cons, Option.some.injEq, List.tail_cons]
    by_cases h43 : a = 43
    ·simp [h43]
    ·simp [h43]
  obtain ⟨t, h1, h2, h3⟩ := hs
  rw [h2]
  obtain ⟨k1, k2⟩ := key t 1 (.inl rfl) h3 h1
  have hdl := dl_le t
  simp only [S_size, S_extract, beq_iff_eq, decide_eq_true_eq, gt_iff_lt]
  refine sdigits _ ?_
  rw [mn]
  refine ifC (fun h0 => k1 (by omega)) fun h0 => ?_
  have h0' : dl t ≠ 0 := by omega
  obtain ⟨v, kk, hh, b1, b2, b3, b4, hK⟩ := k2 h0'
  refine ifT (by omega) (ifT (by omega) (hval t h0' ?_))
  unfold hourL at hh
  by_cases hg : valL (t.take (min (dl t) 3)) > 167
  ·rw [if_pos hg] at hh
   obtain ⟨rfl, rfl⟩ : _ = v ∧ _ = kk := by simpa using hh
   refine ifT (by omega) (ifT (by omega) ?_)
   rw [w64_in (n := ((min (dl t) 3 : Nat) : Int) - 1) (by omega) (by omega), show ((min (dl t) 3 : Nat) : Int) - 1 = ((min (dl t) 3 - 1 : Nat) : Int) by omega]
   refine ifT (by omega) ?_
   simp only [lt, Int.toNat_natCast, fin, tdiv]
   refine ssixty _ (smore _ ?_)
   have hs := sixty_bd (t.drop (min (dl t) 3 - 1))
   have hm := more_bd (t.drop (min (dl t) 3 - 1))
   generalize valL (t.take (min (dl t) 3)) / 10 = v at *
   generalize (sixtyL (t.drop (min (dl t) 3 - 1))).1 = a at *
   generalize (moreL (sixtyL (t.drop (min (dl t) 3 - 1)))).1 = b at *
   rw [w64_in (n := (v : Int)) (by omega) (by omega), w64_in (n := (v : Int) * 3600) (by omega) (by omega), w64_in (n := a * 60) (by omega) (by omega), w64_in (n := (v : Int) * 3600 + a * 60) (by omega) (by omega), w64_in (n := (v : Int) * 3600 + a * 60 + b) (by omega) (by omega), w64_in (by omega) (by omega)]
   exact hK
  ·rw [if_neg hg] at hh
   obtain ⟨rfl, rfl⟩ : _ = v ∧ _ = kk := by simpa using hh
   refine ifF (by omega) (ifT (by omega) (ifT (by omega) ?_))
   simp only [lt, Int.toNat_natCast, fin]
   refine ssixty _ (smore _ ?_)
   have hs := sixty_bd (t.drop (min (dl t) 3))
   have hm := more_bd (t.drop (min (dl t) 3))
   generalize valL (t.take (min (dl t) 3)) = v at *
   generalize (sixtyL (t.drop (min (dl t) 3))).1 = a at *
   generalize (moreL (sixtyL (t.drop (min (dl t) 3)))).1 = b at *
   rw [w64_in (n := (v : Int) * 3600) (by omega) (by omega), w64_in (n := a * 60) (by omega) (by omega), w64_in (n := (v : Int) * 3600 + a * 60) (by omega) (by omega), w64_in (n := (v : Int) * 3600 + a * 60 + b) (by omega) (by omega), w64_in (by omega) (by omega)]
   exact hK
end Go.Proofs.YtenaflbcnkalbaaGreatDoor
end
section
set_option linter.unusedVariables false
set_option linter.unusedSimpArgs false
namespace Go.Proofs.YtenaflbcnkalbaaGreatDoor
open Go Go.Proofs.YtenaflbcnkalbaaGreatDoor.Eng Go.Proofs.YtenaflbcnkalbaaGreatDoor.Pl
theorem take_all (t : List UInt8) (k : Nat) : (t.drop k).take (t.length - k) = t.drop k := List.take_of_length_le (by simp)
theorem swithin (n a b : Int) {K} (h : K (decide (a ≤ n ∧ n ≤ b))) : Xrule_within n a b K := by
 unfold Xrule_within Yrule_within
 simp only [decide_eq_true_eq, ge_iff_le]
 refine ifC (fun h1 => cast (congrArg K ?_) h) fun h1 => cast (congrArg K ?_) h
 ·simp [h1]
 ·simp [h1]
theorem sruleRight (k a b c x : Int) {K} (h : K (rightR k a b c x)) : Xrule_Right (k, a, b, c, x, ()) K := by
 unfold Xrule_Right Yrule_Right
 simp only [beq_iff_eq, decide_eq_true_eq, gt_iff_lt]
 refine swithin _ _ _ ?_
 have fin : ∀ z : Bool, (z = true ↔ ((-604799 ≤ x ∧ x ≤ 604799) ∧ ((k = 0 ∧ 1 ≤ a ∧ a ≤ 12 ∧ 1 ≤ b ∧ b ≤ 5 ∧ 0 ≤ c ∧ c ≤ 6) ∨ (k = 1 ∧ 1 ≤ a ∧ a ≤ 365 ∧ b = 0 ∧ c = 0) ∨ (k = 2 ∧ 0 ≤ a ∧ a ≤ 365 ∧ b = 0 ∧ c = 0)))) → K z := fun z hz =>
  cast (congrArg K (Bool.eq_iff_iff.2 ((right_iff k a b c x).trans hz.symm))) h
 clear h
 refine ifC (fun k0 => ?_) fun k0 => ?_
 ·refine ifC (fun hx => ?_) fun hx => fin _ ?_
  ·refine swithin _ _ _ (ifC (fun ha => swithin _ _ _ (ifC (fun hb => swithin _ _ _ (fin _ ?_)) fun hb => fin _ ?_)) fun ha => fin _ ?_)
   all_goals (simp only [decide_eq_true_eq, Bool.false_eq_true, false_iff] at *; omega)
  ·simp only [decide_eq_true_eq, Bool.false_eq_true, false_iff] at *; omega
 ·refine ifC (fun k1 => ?_) fun k1 => ifC (fun k2 => ?_) fun k2 => fin _ (by simp only [Bool.false_eq_true, false_iff]; omega)
  ·refine ifC (fun hx => ifC (fun ha => swithin _ _ _ (ifC (fun hb => ifC (fun hc => fin _ ?_) fun hc => fin _ ?_) fun hb => fin _ ?_)) fun ha => fin _ ?_) fun hx => fin _ ?_
   all_goals (simp only [decide_eq_true_eq, Bool.false_eq_true, false_iff, beq_iff_eq] at *; omega)
  ·refine ifC (fun hx => swithin _ _ _ (ifC (fun hb => ifC (fun hc => fin _ ?_) fun hc => fin _ ?_) fun hb => fin _ ?_)) fun hx => fin _ ?_
   all_goals (simp only [decide_eq_true_eq, Bool.false_eq_true, false_iff, beq_iff_eq] at *; omega)
theorem snumber (l : List UInt8) (m : Nat) (hm : m ≤ 18) {K} (h : K (numberL l m).1 (S (numberL l m).2.1) (numberL l m).2.2) : Xrule_number (S l) (m : Int) K := by
 unfold Xrule_number Yrule_number
 refine sdigits _ ?_
 have hd := dl_le l
 unfold numberL at h
 simp only [beq_iff_eq, decide_eq_true_eq, gt_iff_lt, S_size, S_extract, Int.toNat_natCast, take_all, List.drop_zero, Nat.sub_zero]
 by_cases e : dl l = 0 ∨ m < dl l
 ·rw [if_pos e] at h
  exact ifC (fun _ => h) fun _ => ifT (by omega) h
 ·rw [if_neg e] at h
  refine ifF (by omega) (ifF (by omega) (ifT (by omega) (ifT (by omega) ?_)))
  have hlen : (l.take (dl l)).length = dl l := by rw [List.length_take]; omega
  exact satoi _ (fun e => by rw [e] at hlen; simp at hlen; omega) (take_dl_dig l _ (Nat.le_refl _)) (by omega) (ifT (by omega) (ifT (by omega) h))
theorem sweek (l : List UInt8) {K} (h : K (0, (weekL l).1, (weekL l).2.1, (weekL l).2.2.1, 0, ()) (S (weekL l).2.2.2.1) (weekL l).2.2.2.2) : Xrule_week (S l) K := by
 unfold Xrule_week Yrule_week
 refine snumber l 2 (by omega) (sCutPrefix _ _ (snumber _ 1 (by omega) (sCutPrefix _ _ (snumber _ 1 (by omega) ?_))))
 unfold weekL at h
 generalize numberL l 2 = p at *
 generalize cutP 46 p.2.1 = q at *
 generalize numberL q.1 1 = r at *
 generalize cutP 46 r.2.1 = t at *
 generalize numberL t.1 1 = u at *
 obtain ⟨p1, p2, p3⟩ := p
 obtain ⟨q1, q2⟩ := q
 obtain ⟨r1, r2, r3⟩ := r
 obtain ⟨t1, t2⟩ := t
 obtain ⟨u1, u2, u3⟩ := u
 simp only at h ⊢
 cases p3 <;> cases r3 <;> cases u3 <;> cases q2 <;> simpa using h
theorem sdate (l : List UInt8) {K} (h : K ((dateL l).1, (dateL l).2.1, (dateL l).2.2.1, (dateL l).2.2.2.1, 0, ()) (S (dateL l).2.2.2.2.1) (dateL l).2.2.2.2.2) : Xrule_date (S l) K := by
 unfold Xrule_date Yrule_date
 refine sCutPrefix _ _ ?_
 unfold dateL at h
 unfold cutP
 by_cases e : l.head? = some 77
 ·rw [if_pos e] at h ⊢
  exact ifT rfl (sweek _ h)
 ·rw [if_neg e] at h ⊢
  refine ifF (by simp) (sCutPrefix _ _ ?_)
  unfold cutP
  by_cases e2 : l.head? = some 74
  ·rw [if_pos e2] at h ⊢
   exact ifT rfl (snumber _ 3 (by omega) h)
  ·rw [if_neg e2] at h ⊢
   exact ifF (by simp) (snumber _ 3 (by omega) h)
theorem date_len (l : List UInt8) : (dateL l).2.2.2.2.1.length ≤ l.length := by
 obtain ⟨j, _, e, _⟩ := dateL_drop l
 rw [e, List.length_drop]; omega
theorem sruleParse (l : List UInt8) (hl : l.length ≤ 140737488351232) {K} (h : K ((parseL l).1, (parseL l).2.1, (parseL l).2.2.1, (parseL l).2.2.2.1, (parseL l).2.2.2.2.1, ()) (S (parseL l).2.2.2.2.2.1) (parseL l).2.2.2.2.2.2) : Xrule_Parse (S l) K := by
 unfold Xrule_Parse Yrule_Parse
 refine sdate _ (sCutPrefix _ _ ?_)
 have hlen := date_len l
 unfold parseL at h
 generalize dateL l = d at *
 obtain ⟨dk, da, db, dc, dt, ok⟩ := d
 simp only at h hlen ⊢
 unfold cutP
 by_cases e : dt.head? = some 47
 ·rw [if_pos e] at h ⊢
  cases ok
  ·simp only [Bool.false_eq_true, if_false] at h
   exact ifF (by simp) (ifT rfl h)
  ·simp only [if_true] at h
   refine ifT rfl (ifT rfl (stime _ (by rw [List.length_tail]; omega) ?_))
   by_cases e2 : (timeL dt.tail).2.2 = true
   ·refine ifF (by simp [e2]) (sruleRight _ _ _ _ _ ?_)
    by_cases e3 : rightR dk da db dc (timeL dt.tail).1 = true
    ·rw [if_pos ⟨e2, e3⟩] at h
     exact ifF (by simp [e3]) h
    ·rw [if_neg (fun h => e3 h.2)] at h
     exact ifT (by simpa using e3) h
   ·rw [if_neg (fun h => e2 h.1)] at h
    exact ifT (by simpa using e2) h
 ·rw [if_neg e] at h ⊢
  cases ok
  ·simp only [Bool.false_eq_true, if_false] at h
   exact ifF (by simp) (ifT rfl h)
  ·simp only [if_true] at h
   refine ifT rfl (ifF (by simp) (ifF (by simp) (sruleRight _ _ _ _ _ ?_)))
   by_cases e3 : rightR dk da db dc 7200 = true
   ·rw [if_pos e3] at h
    exact ifF (by simp [e3]) h
   ·rw [if_neg e3] at h
    exact ifT (by simpa using e3) h
end Go.Proofs.YtenaflbcnkalbaaGreatDoor
end
section
set_option linter.unusedVariables false
set_option linter.unusedSimpArgs false
namespace Go.Proofs.YtenaflbcnkalbaaGreatDoor
open Go Go.Proofs.YtenaflbcnkalbaaGreatDoor.Eng Go.Proofs.YtenaflbcnkalbaaGreatDoor.Pl
theorem tmod_leap (y : Int) : (Int.tmod y 4 = 0 ↔ y % 4 = 0) ∧ (Int.tmod y 100 = 0 ↔ y % 100 = 0) ∧ (Int.tmod y 400 = 0 ↔ y % 400 = 0) := by
 refine ⟨?_, ?_, ?_⟩ <;> rw [← Int.dvd_iff_emod_eq_zero, Int.dvd_iff_tmod_eq_zero]
theorem sleap (y : Int) {K} (h : K (leapY y)) : Xday_Leap y K := by
 unfold Xday_Leap Yday_Leap
 obtain ⟨t1, t2, t3⟩ := tmod_leap y
 have fin : ∀ z : Bool, (z = true ↔ (y % 4 = 0 ∧ (y % 100 ≠ 0 ∨ y % 400 = 0))) → K z := fun z hz => cast (congrArg K (Bool.eq_iff_iff.2 ((leapY_iff y).trans hz.symm))) h
 simp only [beq_iff_eq, bne_iff_ne, ne_eq, t1, t2]
 refine ifC (fun h1 => ifC (fun h2 => fin _ ?_) fun h2 => fin _ ?_) fun h1 => fin _ ?_
 ·simp; omega
 ·rw [beq_iff_eq, t3]; omega
 ·simp; omega
theorem slast (y m : Int) {K} (h : K (if 1 ≤ y ∧ y ≤ 9999 ∧ 1 ≤ m ∧ m ≤ 12 then dim y m else 0) (decide (1 ≤ y ∧ y ≤ 9999 ∧ 1 ≤ m ∧ m ≤ 12))) : Xday_Last y m K := by
 unfold Xday_Last Yday_Last
 simp only [decide_eq_true_eq, gt_iff_lt]
 by_cases e : 1 ≤ y ∧ y ≤ 9999 ∧ 1 ≤ m ∧ m ≤ 12
 ·rw [if_pos e, decide_eq_true e] at h
  refine ifF (by omega) (ifF (by omega) (ifF (by omega) (ifF (by omega) ?_)))
  rw [w64_in (by omega) (by omega)]
  refine ifT (by omega) ?_
  rcases month_cases e.2.2.1 e.2.2.2 with rfl | rfl | rfl | rfl | rfl | rfl | rfl | rfl | rfl | rfl | rfl | rfl
  all_goals
   simp only [Int.sub_self, Int.reduceSub, Int.reduceToNat, Nat.reduceMul, List.getElem?_cons_zero, List.getElem?_cons_succ, Eng.asInt, if_true, beq_iff_eq, Int.toNat_zero, Nat.zero_mul, beq_self_eq_true, Int.reduceBEq, Bool.false_eq_true, if_false]
   first
   | exact h
   |(refine sleap _ ?_
     unfold dim at h
     rw [if_pos rfl] at h
     refine ifC (fun hl => ?_) fun hl => ?_
     ·rw [if_pos hl] at h; exact h
     ·rw [if_neg hl] at h; exact h)
 ·rw [if_neg e, decide_eq_false e] at h
  exact ifC (fun _ => h) fun _ => ifC (fun _ => h) fun _ => ifC (fun _ => h) fun _ => ifT (by omega) h
theorem ediv_in (a b : Int) (h0 : -9223372036854775808 ≤ a) (h1 : a ≤ 9223372036854775807) (hb : 1 ≤ b) : -9223372036854775808 ≤ a / b ∧ a / b ≤ 9223372036854775807 := by
 constructor
 ·have : a ≤ a / b ∨ 0 ≤ a / b := by
   by_cases hn : 0 ≤ a
   ·exact .inr (Int.ediv_nonneg hn (by omega))
   ·refine .inl (Int.le_ediv_of_mul_le (by omega) ?_)
    have : (b - 1) * a ≤ 0 := Int.mul_nonpos_of_nonneg_of_nonpos (by omega) (by omega)
    rw [Int.sub_mul, Int.mul_comm b a] at this
    omega
  omega
 ·have := Int.ediv_le_self (a := a) b
  by_cases hn : 0 ≤ a
  ·have := this hn; omega
  ·have := Int.ediv_neg_of_neg_of_pos (by omega : a < 0) (by omega : 0 < b); omega
theorem sdiv (a b : Int) (h0 : -9223372036854775808 ≤ a) (h1 : a ≤ 9223372036854775807) (hb : 1 ≤ b) (hb' : b ≤ 9223372036854775807) {K} (h : K (a / b) (a % b) true) : Xnum_Div a b K := by
 unfold Xnum_Div Ynum_Div
 have hm := Int.emod_nonneg a (by omega : b ≠ 0)
 have hm2 := Int.emod_lt_of_pos a (by omega : 0 < b)
 obtain ⟨hq1, hq2⟩ := ediv_in a b h0 h1 hb
 simp only [decide_eq_true_eq, lt]
 refine ifF (by omega) (ifF (by omega) (ifF (by omega) ?_))
 by_cases hn : 0 ≤ a
 ·rw [Int.tmod_eq_emod_of_nonneg hn, Int.tdiv_eq_ediv_of_nonneg hn]
  refine ifF (by omega) ?_
  rw [w64_in hq1 hq2]; exact h
 ·by_cases hz : a % b = 0
  ·have hd : b ∣ a := Int.dvd_of_emod_eq_zero hz
   have e1 : Int.tmod a b = 0 := Int.tmod_eq_zero_of_dvd hd
   have e2 : Int.tdiv a b = a / b := by
    obtain ⟨c, rfl⟩ := hd
    rw [Int.mul_tdiv_cancel_left _ (by omega), Int.mul_ediv_cancel_left _ (by omega)]
   rw [e1, e2]
   refine ifF (by omega) ?_
   rw [w64_in hq1 hq2, ← hz]; exact h
  ·have e1 : Int.tmod a b = a % b - b := by
    rw [Int.tmod_eq_emod]
    have : ¬ (0 ≤ a ∨ b ∣ a) := by
     rintro (h | h)
     ·exact hn h
     ·exact hz (Int.emod_eq_zero_of_dvd h)
    rw [if_neg this]
    have : (b.natAbs : Int) = b := by omega
    omega
   have e2 : Int.tdiv a b = a / b + 1 := by
    have := Int.mul_tdiv_add_tmod a b
    rw [e1] at this
    have hdm := Int.mul_ediv_add_emod a b
    have h2 : b * (Int.tdiv a b) = b * (a / b + 1) := by rw [Int.mul_add]; omega
    exact Int.eq_of_mul_eq_mul_left (by omega) h2
   have hlt : a / b < 0 := Int.ediv_neg_of_neg_of_pos (by omega) (by omega)
   rw [e1, e2]
   refine ifT (by omega) ?_
   rw [w64_in (n := a / b + 1) (by omega) (by omega), w64_in (by omega) (by omega), w64_in (by omega) (by omega), show a / b + 1 - 1 = a / b by omega, show a % b - b + b = a % b by omega]
   exact h
theorem sweekday (n : Int) (h0 : -9223372036854775808 ≤ n) (h1 : n ≤ 9223372036854775807) {K} (h : K (wk n)) : Xday_Week n K := by
 unfold Xday_Week Yday_Week
 have ht : -7 < Int.tmod n 7 ∧ Int.tmod n 7 < 7 ∧ (Int.tmod n 7 + 4) % 7 = (n + 4) % 7 := by
  rw [Int.tmod_eq_emod]; split <;> simp <;> omega
 rw [w64_in (by omega) (by omega)]
 refine sdiv _ _ (by omega) (by omega) (by omega) (by omega) ?_
 rw [ht.2.2]; exact h
def okD (y m d : Int) : Prop := 1 ≤ y ∧ y ≤ 9999 ∧ 1 ≤ m ∧ m ≤ 12 ∧ 1 ≤ d ∧ d ≤ dim y m
instance (y m d : Int) : Decidable (okD y m d) := by unfold okD; infer_instance
theorem snum (y m d : Int) (hd0 : -9223372036854775808 ≤ d) (hd1 : d ≤ 9223372036854775807) {K} (h : K (if okD y m d then num y m d else 0) (decide (okD y m d))) : Xday_Number y m d K := by
 unfold Xday_Number Yday_Number
 refine slast _ _ ?_
 simp only [decide_eq_true_eq, gt_iff_lt, lt]
 by_cases e : 1 ≤ y ∧ y ≤ 9999 ∧ 1 ≤ m ∧ m ≤ 12
 ·rw [decide_eq_true e, if_pos e]
  refine ifF (by simp) ?_
  by_cases e2 : 1 ≤ d ∧ d ≤ dim y m
  ·have ok : okD y m d := ⟨e.1, e.2.1, e.2.2.1, e.2.2.2, e2.1, e2.2⟩
   rw [if_pos ok, decide_eq_true ok] at h
   refine ifF (by omega) (ifF (by omega) ?_)
   have hd := dim_bd y m
   rw [← numP_eq e.2.2.1 e.2.2.2] at h
   unfold numP sy sm at h
   refine ifC (fun hm => ?_) fun hm => ?_
   ·rw [if_pos hm, if_pos hm] at h
    rw [w64_in (n := y - 1) (by omega) (by omega)]
    refine sdiv _ _ (by omega) (by omega) (by omega) (by omega) ?_
    have b1 : 0 ≤ (y - 1) % 400 ∧ (y - 1) % 400 ≤ 399 := by omega
    have b2 : 0 ≤ (y - 1) / 400 ∧ (y - 1) / 400 ≤ 25 := by omega
    generalize (y - 1) % 400 = r at *
    generalize (y - 1) / 400 = q at *
    simp (disch := omega) only [w64_in, Int.tdiv_eq_ediv_of_nonneg]
    refine cast (congrArg (fun z => K z true) ?_) h
    omega
   ·rw [if_neg hm, if_neg hm] at h
    refine sdiv _ _ (by omega) (by omega) (by omega) (by omega) ?_
    have b1 : 0 ≤ y % 400 ∧ y % 400 ≤ 399 := by omega
    have b2 : 0 ≤ y / 400 ∧ y / 400 ≤ 25 := by omega
    generalize y % 400 = r at *
    generalize y / 400 = q at *
    simp (disch := omega) only [w64_in, Int.tdiv_eq_ediv_of_nonneg]
    refine cast (congrArg (fun z => K z true) ?_) h
    omega
  ·have ok : ¬ okD y m d := fun h => e2 h.2.2.2.2
   rw [if_neg ok, decide_eq_false ok] at h
   exact ifC (fun _ => h) fun _ => ifT (by omega) h
 ·have ok : ¬ okD y m d := fun h => e ⟨h.1, h.2.1, h.2.2.1, h.2.2.2.1⟩
  rw [if_neg ok, decide_eq_false ok] at h
  rw [decide_eq_false e]
  exact ifT rfl h
theorem sday (n : Int) {K} (h : if -719162 ≤ n ∧ n ≤ 2932896 then K (yearP n) (monP n) (dayP n) true else K 0 0 0 false) : Xday_Date n K := by
 unfold Xday_Date Yday_Date
 simp only [decide_eq_true_eq, gt_iff_lt, lt]
 by_cases e : -719162 ≤ n ∧ n ≤ 2932896
 ·rw [if_pos e] at h
  refine ifF (by omega) (ifF (by omega) ?_)
  rw [w64_in (n := n + 719468) (by omega) (by omega)]
  refine sdiv _ _ (by omega) (by omega) (by omega) (by omega) ?_
  have b1 : 0 ≤ (n + 719468) / 146097 ∧ (n + 719468) / 146097 ≤ 25 := by omega
  have b2 : 0 ≤ (n + 719468) % 146097 ∧ (n + 719468) % 146097 ≤ 146096 := by omega
  have hv := doy_bd (by omega : -719162 ≤ n) (by omega)
  unfold yearP monP dayP mon doy yrs era ofE at *
  generalize (n + 719468) / 146097 = q at *
  generalize (n + 719468) % 146097 = o at *
  have hg : 0 ≤ gy o ∧ gy o ≤ 146096 ∧ gy o = o - o / 1460 + o / 36524 - o / 146096 := by unfold gy; omega
  simp (disch := omega) only [w64_in, Int.tdiv_eq_ediv_of_nonneg]
  rw [← hg.2.2]
  have hY : 0 ≤ gy o / 365 ∧ gy o / 365 ≤ 400 := by omega
  have hS : st (gy o / 365) = 365 * (gy o / 365) + gy o / 365 / 4 - gy o / 365 / 100 := rfl
  rw [hS] at hv h
  generalize o - (365 * (gy o / 365) + gy o / 365 / 4 - gy o / 365 / 100) = D at *
  simp (disch := omega) only [w64_in, Int.tdiv_eq_ediv_of_nonneg]
  refine ifC (fun hm => ?_) fun hm => ?_
  ·rw [if_pos (by omega), if_pos (by omega)] at h; exact h
  ·rw [if_neg (by omega), if_neg (by omega)] at h; exact h
 ·rw [if_neg e] at h
  exact ifC (fun _ => h) fun _ => ifT (by omega) h
theorem sruleDay (k a b c x y : Int) {K} (h : K (if (1 ≤ y ∧ y ≤ 9999) ∧ rightR k a b c x = true then ruleDay k a b c y else 0) (decide ((1 ≤ y ∧ y ≤ 9999) ∧ rightR k a b c x = true))) : Xrule_Day (k, a, b, c, x, ()) y K := by
 unfold Xrule_Day Yrule_Day
 refine snum _ _ _ (by omega) (by omega) ?_
 simp only [decide_eq_true_eq, gt_iff_lt, ge_iff_le, lt, beq_iff_eq]
 have h1 : okD y 1 1 ↔ (1 ≤ y ∧ y ≤ 9999) := by unfold okD; have := dim_jan y; omega
 by_cases ey : 1 ≤ y ∧ y ≤ 9999
 ·rw [if_pos (h1.2 ey), decide_eq_true (h1.2 ey)]
  refine ifF (by simp) (sruleRight _ _ _ _ _ ?_)
  by_cases e : rightR k a b c x = true
  ·rw [if_pos ⟨ey, e⟩, decide_eq_true ⟨ey, e⟩] at h
   refine ifF (by simp [e]) ?_
   obtain ⟨hx, hr⟩ := (right_iff k a b c x).1 e
   have hf := fst_bd ey.1 ey.2
   have hf2 := fst_succ y
   rw [num_first]
   unfold ruleDay at h
   refine ifC (fun k2 => ?_) fun k2 => ?_
   ·rw [if_pos k2] at h
    rw [w64_in (by omega) (by omega)]; exact h
   ·rw [if_neg k2] at h
    refine ifC (fun k1 => ?_) fun k1 => ?_
    ·rw [if_pos k1] at h
     refine ifC (fun ha => ?_) fun ha => sleap _ ?_
     ·rw [if_pos (.inl ha)] at h
      rw [w64_in (n := fst y - 1) (by omega) (by omega), w64_in (by omega) (by omega)]; exact h
     ·refine ifC (fun hl => ?_) fun hl => ?_
      ·rw [if_pos (.inr (by simpa using hl))] at h
       rw [w64_in (n := fst y - 1) (by omega) (by omega), w64_in (by omega) (by omega)]; exact h
      ·rw [if_neg (by rintro (h | h); exact ha h; simp [h] at hl)] at h
       rw [w64_in (by omega) (by omega)]; exact h
    ·rw [if_neg k1] at h
     refine snum _ _ _ (by omega) (by omega) (slast _ _ ?_)
     have hok : okD y a 1 := ⟨ey.1, ey.2, by omega, by omega, by omega, by have := dim_bd y a; omega⟩
     have hv : Vld y a 1 := ⟨ey.1, ey.2, by omega, by omega, by omega, by have := dim_bd y a; omega⟩
     have hn := num_range hv
     rw [if_pos hok, if_pos ⟨ey.1, ey.2, by omega, by omega⟩]
     refine sweekday _ (by omega) (by omega) ?_
     have hw : 0 ≤ wk (num y a 1) ∧ wk (num y a 1) < 7 := by unfold wk; omega
     have hd := dim_bd y a
     unfold offW at h
     simp only at h
     generalize num y a 1 = n at *
     generalize wk n = w at *
     generalize dim y a = D at *
     rw [w64_in (n := b - 1) (by omega) (by omega), w64_in (n := 7 * (b - 1)) (by omega) (by omega), w64_in (n := c - w) (by omega) (by omega), w64_in (n := c - w + 7) (by omega) (by omega), Int.tmod_eq_emod_of_nonneg (by omega)]
     rw [w64_in (n := (c - w + 7) % 7 + 7 * (b - 1)) (by omega) (by omega)]
     refine ifC (fun hk => ?_) fun hk => ?_
     ·rw [if_pos (by omega)] at h
      rw [w64_in (n := (c - w + 7) % 7 + 7 * (b - 1) - 7) (by omega) (by omega), w64_in (by omega) (by omega)]; exact h
     ·rw [if_neg (by omega)] at h
      rw [w64_in (by omega) (by omega)]; exact h
  ·rw [if_neg (fun h => e h.2), decide_eq_false (fun h => e h.2)] at h
   exact ifT (by simpa using e) h
 ·rw [if_neg (fun h => ey h.1), decide_eq_false (fun h => ey h.1)] at h
  have : ¬ okD y 1 1 := fun h => ey (h1.1 h)
  rw [decide_eq_false this]
  exact ifT rfl h
/-- A rule's second of a year, from the first of 1970 on. -/
def ruleAt (k a b c x y : Int) : Int := ruleDay k a b c y * 86400 + x
theorem sruleAt (k a b c x y : Int) {K} (h : K (if (1 ≤ y ∧ y ≤ 9999) ∧ rightR k a b c x = true then ruleAt k a b c x y else 0) (decide ((1 ≤ y ∧ y ≤ 9999) ∧ rightR k a b c x = true))) : Xrule_At (k, a, b, c, x, ()) y K := by
 unfold Xrule_At Yrule_At
 refine sruleDay _ _ _ _ _ _ ?_
 simp only [decide_eq_true_eq, lt]
 by_cases e : (1 ≤ y ∧ y ≤ 9999) ∧ rightR k a b c x = true
 ·rw [if_pos e, decide_eq_true e] at h ⊢
  refine ifF (by simp) ?_
  obtain ⟨hx, hr⟩ := (right_iff k a b c x).1 e.2
  have hf := fst_bd e.1.1 e.1.2
  have hf2 := fst_succ y
  have hb := ruleDay_bd e.1 e.2
  rw [w64_in (n := ruleDay k a b c y * 86400) (by omega) (by omega), w64_in (by omega) (by omega)]
  exact h
 ·rw [if_neg e, decide_eq_false e] at h
  rw [decide_eq_false e]
  exact ifT rfl h
theorem sadd (a b : Int) (ha : -9223372036854775808 ≤ a ∧ a ≤ 9223372036854775807) (hb : -9223372036854775808 ≤ b ∧ b ≤ 9223372036854775807) {K}
  (h : if -9223372036854775808 ≤ a + b ∧ a + b ≤ 9223372036854775807 then K (a + b) true else K 0 false) : Xnum_Add a b K := by
 unfold Xnum_Add Ynum_Add
 simp only [lt, bne_iff_ne, ne_eq]
 by_cases e : -9223372036854775808 ≤ a + b ∧ a + b ≤ 9223372036854775807
 ·rw [if_pos e] at h
  rw [w64_in e.1 e.2]
  exact ifC (fun h1 => ifC (fun h2 => absurd h1 (by simp; omega)) fun _ => h) fun _ => h
 ·rw [if_neg e] at h
  have hw : w64 (a + b) = if a + b < 0 then a + b + 18446744073709551616 else a + b - 18446744073709551616 := by
   unfold w64 IntKind.wrap
   simp [IntKind.bits, IntKind.signed]
   split <;> omega
  rw [hw]
  refine ifT ?_ (ifT (by omega) h)
  split <;> simp <;> omega
end Go.Proofs.YtenaflbcnkalbaaGreatDoor
end
section
set_option linter.unusedVariables false
set_option linter.unusedSimpArgs false
namespace Go.Proofs.YtenaflbcnkalbaaGreatDoor
open Go Go.Proofs.YtenaflbcnkalbaaGreatDoor.Eng Go.Proofs.YtenaflbcnkalbaaGreatDoor.Pl
abbrev tupRu (r : Ru) : Int × Int × Int × Int × Int × Unit := (r.k, r.a, r.b, r.c, r.x, ())
abbrev tupFt (f : Ft) : Int × Bool × ByteArray × Int × Bool × ByteArray × Bool × Int × Int × Int × Int × Int × Int × Int × Int × Int × Int × Unit :=
 (f.so, f.sd, S f.sa, f.wo, f.wd, S f.wa, f.has, f.fr.k, f.fr.a, f.fr.b, f.fr.c, f.fr.x, f.to.k, f.to.a, f.to.b, f.to.c, f.to.x, ())
theorem skind (o : Int) (d : Bool) (l : List UInt8) (w : Bool) {K} (h : K (kindR o d l w)) : Xfoot_kind (o, d, S l, ()) w K := by
 unfold Xfoot_kind Yfoot_kind
 refine sabbr l ?_
 unfold kindR at h
 simp only [ge_iff_le, decide_eq_true_eq, beq_iff_eq]
 by_cases e1 : abbrL l = true
 ·refine ifT e1 ?_
  by_cases e2 : d = w
  ·refine ifT e2 ?_
   simp only [e1, e2, beq_self_eq_true, Bool.true_and] at h
   refine ifC (fun e3 => cast (congrArg K ?_) h) fun e3 => cast (congrArg K ?_) h
   ·simp [e3]
   ·simp [e3]
  ·exact ifF e2 (cast (congrArg K (by simp [e2])) h)
 ·exact ifF e1 (cast (congrArg K (by simp [e1])) h)
theorem sfootRight (f : Ft) {K} (h : K f.ok) : Xfoot_Right (tupFt f) K := by
 unfold Xfoot_Right Yfoot_Right
 refine skind _ _ _ _ ?_
 unfold Ft.ok at h
 by_cases e1 : kindR f.so f.sd f.sa false = true
 ·refine ifF (by simp [e1]) ?_
  rw [e1, Bool.true_and] at h
  refine ifC (fun e2 => ?_) fun e2 => ?_
  ·rw [if_pos e2] at h
   refine skind _ _ _ _ ?_
   by_cases e3 : kindR f.wo f.wd f.wa true = true
   ·refine ifT e3 (sruleRight _ _ _ _ _ ?_)
    rw [e3, Bool.true_and] at h
    by_cases e4 : f.fr.ok = true
    ·refine ifT e4 (sruleRight _ _ _ _ _ ?_)
     rw [e4, Bool.true_and] at h
     exact h
    ·exact ifF e4 (cast (congrArg K (by simp [e4])) h)
   ·exact ifF e3 (cast (congrArg K (by simp [e3])) h)
  ·rw [if_neg e2] at h
   have key : ∀ z : Bool, (z = true ↔ f.bare) → K z := fun z hz => cast (congrArg K (Bool.eq_iff_iff.2 (decide_eq_true_iff.trans hz.symm))) h
   have e2' : f.has = false := by simpa using e2
   simp only [lt]
   refine key _ ?_
   unfold Ft.bare
   simp [e2', S_toList]
   constructor <;> intro hh <;> simp [hh]
 ·exact ifT (by simpa using e1) (cast (congrArg K (by simp [e1])) h)
theorem splain (n : Int) {K} (h : K (decide ((97 ≤ n ∧ n ≤ 122) ∨ (65 ≤ n ∧ n ≤ 90)))) : Xfoot_plain n K := by
 unfold Xfoot_plain Yfoot_plain
 simp only [decide_eq_true_eq, ge_iff_le]
 repeat' (first | refine ifT (by omega) ?_ | refine ifF (by omega) ?_ | refine ifC (fun _ => ?_) (fun _ => ?_))
 all_goals (refine cast (congrArg K ?_) h; apply Bool.eq_iff_iff.2; simp only [decide_eq_true_eq, Bool.false_eq_true, true_iff, iff_true, iff_false]; omega)
theorem letQ (c : UInt8) : (!decide ((97 ≤ (c.toNat : Int) ∧ (c.toNat : Int) ≤ 122) ∨ (65 ≤ (c.toNat : Int) ∧ (c.toNat : Int) ≤ 90))) = !letC c := by
 unfold letC; congr 1; apply Bool.eq_iff_iff.2; simp; omega
theorem letH (c : UInt8) (hc : 128 ≤ c.toNat) : (!letC c) = true := by
 unfold letC; simp; omega
theorem sname (l : List UInt8) (hl : l.length ≤ 140737488351232) {a1 a2 a3 a4 a5 a6 a7 a8 a9 a10 a11 a12 a13 a14 a15 a16 a17} {K} (h : K (S (nameP l).1) (nameP l).2.1 (S (nameP l).2.2) a1 a2 a3 a4 a5 a6 a7 a8 a9 a10 a11 a12 a13 a14 a15 a16 a17) : Xfoot_reader_name (S l) a1 a2 a3 a4 a5 a6 a7 a8 a9 a10 a11 a12 a13 a14 a15 a16 a17 K := by
 unfold Xfoot_reader_name Yfoot_reader_name
 refine sCutPrefix _ _ ?_
 unfold nameP at h
 unfold cutP
 by_cases e : l.head? = some 60
 ·rw [if_pos e] at h ⊢
  refine ifT rfl (sCut _ _ (by rw [List.length_tail]; omega) ?_)
  generalize splitL 62 l.tail = p at *
  obtain ⟨p1, p2, p3⟩ := p
  simp only at h ⊢
  cases p3
  ·simp only [Bool.false_and] at h
   exact ifF (by simp) h
  ·simp only [Bool.true_and] at h
   exact ifT rfl (sabbr _ h)
 ·rw [if_neg e] at h ⊢
  refine ifF (by simp) ?_
  unfold Xstrings_IndexFunc_1 Ystrings_IndexFunc_1 Xstrings_indexFunc_1
  have sn : ∀ (n : Int) {K : Bool → Prop}, K (!decide ((97 ≤ n ∧ n ≤ 122) ∨ (65 ≤ n ∧ n ≤ 90))) → Xfoot_reader_name_1 n K := fun n K h => by
   unfold Xfoot_reader_name_1 Yfoot_reader_name_1; exact splain n h
  refine sIndexFunc (fun c => !letC c) (fun c K hc h => sn _ (cast (congrArg K (letQ c).symm) h)) (fun n K hn h => sn _ (cast (congrArg K ?_) h)) letH l ?_
  ·symm; simp; omega
  ·have hn := nl_le (fun c => !letC c) l
   generalize nl (fun c => !letC c) l = k at *
   simp only [S_size, S_extract, decide_eq_true_eq, List.drop_zero, Nat.sub_zero, take_all, Int.toNat_natCast]
   by_cases e2 : k < l.length
   ·rw [if_pos e2]
    simp only [Int.toNat_natCast, take_all, List.drop_zero, Nat.sub_zero]
    exact ifF (by omega) (ifT (by omega) (ifT (by omega) (ifT (by omega) (ifT (by omega) (sabbr _ h)))))
   ·rw [if_neg e2]
    have : k = l.length := by omega
    subst this
    refine ifT (by omega) (ifT (by omega) (ifT (by omega) (ifT (by omega) (sabbr _ ?_))))
    exact h
theorem name_len (l : List UInt8) : (nameP l).2.2.length ≤ l.length ∧ (nameP l).1.length ≤ l.length := by
 unfold nameP splitL
 repeat' split
 all_goals simp
 all_goals omega
theorem time_bd (l : List UInt8) : -604799 ≤ (timeL l).1 ∧ (timeL l).1 ≤ 604799 ∧ (timeL l).2.1.length ≤ l.length := by
 obtain ⟨j, _, e, _, h1, h2, _⟩ := time_drop l
 rw [e, List.length_drop]; exact ⟨h1, h2, by omega⟩
theorem susual (l : List UInt8) (hl : l.length ≤ 140737488351232) {a1 a2 a3 a4 a5 a6 a7 a8 a9 a10 a11 a12 a13 a14 a15 a16 a17} {K} (h : K (usualP l).ok (S (usualP l).rest) (usualP l).o false (S (usualP l).a) a4 a5 a6 a7 a8 a9 a10 a11 a12 a13 a14 a15 a16 a17) : Xfoot_reader_usual (S l) a1 a2 a3 a4 a5 a6 a7 a8 a9 a10 a11 a12 a13 a14 a15 a16 a17 K := by
 unfold Xfoot_reader_usual Yfoot_reader_usual
 have hn := name_len l
 refine sname l hl (stime _ (by omega) ?_)
 have ht := time_bd (nameP l).2.2
 rw [w64_in (by omega) (by omega), Int.zero_sub]
 unfold usualP at h
 simp only at h
 by_cases e : (nameP l).2.1 = true
 ·rw [e, Bool.true_and] at h
  exact ifT e h
 ·rw [Bool.eq_false_iff.2 e, Bool.false_and] at h
  exact ifF e h
theorem ssummer (l : List UInt8) (hl : l.length ≤ 140737488351232) {a1 a2 a3 a4 a5 a6 a7 a8 a9 a10 a11 a12 a13 a14 a15 a16 a17} (ha : -604799 ≤ a1 ∧ a1 ≤ 604799) {K} (h : K (summerP a1 l).ok (S (summerP a1 l).rest) a1 a2 a3 (summerP a1 l).o true (S (summerP a1 l).a) true a8 a9 a10 a11 a12 a13 a14 a15 a16 a17) : Xfoot_reader_summer (S l) a1 a2 a3 a4 a5 a6 a7 a8 a9 a10 a11 a12 a13 a14 a15 a16 a17 K := by
 unfold Xfoot_reader_summer Yfoot_reader_summer
 have hn := name_len l
 refine sname l hl (stime _ (by omega) ?_)
 have ht := time_bd (nameP l).2.2
 rw [w64_in (n := 0 - _) (by omega) (by omega), Int.zero_sub, w64_in (by omega) (by omega)]
 unfold summerP at h
 by_cases e : (timeL (nameP l).2.2).2.2 = true
 ·rw [if_pos e] at h
  exact ifT e h
 ·rw [if_neg e] at h
  exact ifF e h
theorem cut_len (c : UInt8) (l : List UInt8) : (cutP c l).1.length ≤ l.length := by
 unfold cutP; split
 ·rw [List.length_tail]; omega
 ·exact Nat.le_refl _
theorem srule (l : List UInt8) (hl : l.length ≤ 140737488351232) {a1 a2 a3 a4 a5 a6 a7 a8 a9 a10 a11 a12 a13 a14 a15 a16 a17} {K} (h : K (ruleP l).ok (S (ruleP l).rest) a1 a2 a3 a4 a5 a6 a7 (ruleP l).r.k (ruleP l).r.a (ruleP l).r.b (ruleP l).r.c (ruleP l).r.x a13 a14 a15 a16 a17) : Xfoot_reader_rule (S l) a1 a2 a3 a4 a5 a6 a7 a8 a9 a10 a11 a12 a13 a14 a15 a16 a17 K := by
 unfold Xfoot_reader_rule Yfoot_reader_rule
 have hc := cut_len 44 l
 refine sCutPrefix _ _ (sruleParse _ (by omega) ?_)
 unfold ruleP at h
 simp only at h
 by_cases e : (parseL (cutP 44 l).1).2.2.2.2.2.2 = true
 ·rw [e, Bool.true_and] at h
  exact ifT e h
 ·rw [Bool.eq_false_iff.2 e, Bool.false_and] at h
  exact ifF e h
theorem srule1 (l : List UInt8) (hl : l.length ≤ 140737488351232) {a1 a2 a3 a4 a5 a6 a7 a8 a9 a10 a11 a12 a13 a14 a15 a16 a17} {K} (h : K (ruleP l).ok (S (ruleP l).rest) a1 a2 a3 a4 a5 a6 a7 a8 a9 a10 a11 a12 (ruleP l).r.k (ruleP l).r.a (ruleP l).r.b (ruleP l).r.c (ruleP l).r.x) : Xfoot_reader_rule_1 (S l) a1 a2 a3 a4 a5 a6 a7 a8 a9 a10 a11 a12 a13 a14 a15 a16 a17 K := by
 unfold Xfoot_reader_rule_1 Yfoot_reader_rule_1
 have hc := cut_len 44 l
 refine sCutPrefix _ _ (sruleParse _ (by omega) ?_)
 unfold ruleP at h
 simp only at h
 by_cases e : (parseL (cutP 44 l).1).2.2.2.2.2.2 = true
 ·rw [e, Bool.true_and] at h
  exact ifT e h
 ·rw [Bool.eq_false_iff.2 e, Bool.false_and] at h
  exact ifF e h
theorem rule_len (l : List UInt8) : (ruleP l).rest.length ≤ l.length := by
 have hc := cut_len 44 l
 unfold ruleP
 simp only
 cases e : (parseL (cutP 44 l).1).2.2.2.2.2.2
 ·rw [parse_bad _ e]; exact hc
 ·obtain ⟨_, j, _, h1, h2⟩ := parse_good _ e
  rw [h2, List.length_drop]; omega
theorem usual_len (l : List UInt8) : (usualP l).rest.length ≤ l.length ∧ -604799 ≤ (usualP l).o ∧ (usualP l).o ≤ 604799 := by
 have hn := name_len l
 have ht := time_bd (nameP l).2.2
 unfold usualP
 simp only
 omega
theorem summer_len (so : Int) (l : List UInt8) : (summerP so l).rest.length ≤ l.length := by
 have hn := name_len l
 have ht := time_bd (nameP l).2.2
 unfold summerP
 split <;> simp only <;> omega
theorem sfootParse (l : List UInt8) (hl : l.length ≤ 140737488351232) {K} (h : K (tupFt (Ft.parse l).1) (Ft.parse l).2) : Xfoot_Parse (S l) K := by
 unfold Xfoot_Parse Yfoot_Parse
 have hu := usual_len l
 have hs := summer_len (usualP l).o (usualP l).rest
 have hr := rule_len (summerP (usualP l).o (usualP l).rest).rest
 refine susual l hl ?_
 unfold Ft.parse at h
 by_cases e1 : (usualP l).ok = true
 ·rw [if_pos e1] at h
  refine ifF (by simp [e1]) ?_
  simp only [S_toList]
  by_cases e2 : (usualP l).rest = []
  ·rw [if_pos e2] at h
   refine ifT (by simp [e2]) (ifF (by simp [e2]) (sfootRight ⟨(usualP l).o, false, (usualP l).a, 0, false, [], false, .z, .z⟩ ?_))
   unfold Ft.chk at h
   refine ifC (fun e3 => ?_) fun e3 => ?_
   ·rw [if_neg (by simpa using e3)] at h; exact h
   ·rw [if_pos (by simpa using e3)] at h; exact h
  ·rw [if_neg e2] at h
   refine ifF (by simp [e2]) (ssummer _ (by omega) (by omega) ?_)
   by_cases e3 : (summerP (usualP l).o (usualP l).rest).ok = true
   ·rw [if_pos e3] at h
    refine ifF (by simp [e3]) ?_
    unfold Xfoot_reader_from Yfoot_reader_from
    refine srule _ (by omega) ?_
    by_cases e4 : (ruleP (summerP (usualP l).o (usualP l).rest).rest).ok = true
    ·rw [if_pos e4] at h
     refine ifF (by simp [e4]) ?_
     unfold Xfoot_reader_to Yfoot_reader_to
     refine srule1 _ (by omega) ?_
     by_cases e5 : (ruleP (ruleP (summerP (usualP l).o (usualP l).rest).rest).rest).ok = true
     ·rw [if_pos e5] at h
      refine ifF (by simp [e5]) ?_
      simp only [S_toList]
      by_cases e6 : (ruleP (ruleP (summerP (usualP l).o (usualP l).rest).rest).rest).rest = []
      ·rw [if_pos e6] at h
       refine ifF (by simp [e6]) (sfootRight ⟨(usualP l).o, false, (usualP l).a, (summerP (usualP l).o (usualP l).rest).o, true, (summerP (usualP l).o (usualP l).rest).a, true, (ruleP (summerP (usualP l).o (usualP l).rest).rest).r, (ruleP (ruleP (summerP (usualP l).o (usualP l).rest).rest).rest).r⟩ ?_)
       unfold Ft.chk at h
       refine ifC (fun e3 => ?_) fun e3 => ?_
       ·rw [if_neg (by simpa using e3)] at h; exact h
       ·rw [if_pos (by simpa using e3)] at h; exact h
      ·rw [if_neg e6] at h
       exact ifT (by simp [e6]) h
     ·rw [if_neg e5] at h
      exact ifT (by simpa using e5) h
    ·rw [if_neg e4] at h
     exact ifT (by simpa using e4) h
   ·rw [if_neg e3] at h
    exact ifT (by simpa using e3) h
 ·rw [if_neg e1] at h
  exact ifT (by simpa using e1) h
end Go.Proofs.YtenaflbcnkalbaaGreatDoor
end
section
set_option linter.unusedVariables false
set_option linter.unusedSimpArgs false
namespace Go.Proofs.YtenaflbcnkalbaaGreatDoor
open Go Go.Proofs.YtenaflbcnkalbaaGreatDoor.Eng Go.Proofs.YtenaflbcnkalbaaGreatDoor.Pl
set_option maxRecDepth 100000
set_option maxHeartbeats 2000000
theorem RV_cut (l : List Rec) (a n : Nat) : cutL (RV l) a n = RV ((l.drop a).take n) := by simp [cutL, RV]
theorem getD_at {α : Type} (l : List α) (i : Nat) (d : α) (h : i < l.length) : l.getD i d = l[i] := by
 rw [List.getD_eq_getElem?_getD, List.getElem?_eq_getElem h]; rfl
theorem sLeaps (l : List Rec) (hl : l.length ≤ 100000) {K} (h : K (RV (leapsR l)) false true) : Xrecord_leaps (RV l) K := by
 unfold Xrecord_leaps Yrecord_leaps
 simp only [RV_len, beq_iff_eq, decide_eq_true_eq]
 have e1 : w64 ((l.length : Int) - 1) = (l.length : Int) - 1 := w64_in (by omega) (by omega)
 have e2 : w64 ((l.length : Int) - 1 - 1) = (l.length : Int) - 1 - 1 := w64_in (by omega) (by omega)
 rw [e1, e2]
 simp only [lt]
 have cut : ∀ n : Nat, n = l.length - 1 → cutL (RV l) 0 (Int.toNat ((l.length : Int) - 1) - 0) = RV (l.take n) := fun n hn => by
  rw [RV_cut, List.drop_zero]; congr 2; omega
 unfold leapsR at h
 by_cases h1 : l.length = 1
 ·have g := getD_at l 0 (0, 0) (by omega)
  have le : lastExp l = ((l[0]'(by omega)).2 == 0) := by
   unfold lastExp
   rw [g]; simp [h1]
  rw [if_pos (by omega), if_pos (by omega)]
  refine asR2 (by omega) ?_
  by_cases h2 : (l[0]'(by omega)).2 = 0
  ·rw [if_pos h2, if_pos h2, if_pos (by omega), if_pos (by omega), cut _ rfl]
   rw [le, h2, if_pos (beq_self_eq_true _)] at h
   exact h
  ·rw [if_neg h2, if_neg (by omega)]
   rw [le, if_neg (by simpa using h2)] at h
   exact h
 ·rw [if_neg (by omega)]
  by_cases h2 : 1 < l.length
  ·have g1 := getD_at l (l.length - 1) (0, 0) (by omega)
   have g2 := getD_at l (l.length - 2) (0, 0) (by omega)
   have le : lastExp l = ((l[l.length - 1]'(by omega)).2 == (l[l.length - 2]'(by omega)).2) := by
    unfold lastExp
    rw [g1, g2]; simp [h1, h2]
   rw [if_pos (by omega), if_pos (by omega)]
   have t1 : Int.toNat ((l.length : Int) - 1) = l.length - 1 := by omega
   have t2 : Int.toNat ((l.length : Int) - 1 - 1) = l.length - 2 := by omega
   rw [t1, t2] at *
   refine asR2 (by omega) ?_
   rw [if_pos (by omega)]
   refine asR2 (by omega) ?_
   by_cases h3 : (l[l.length - 1]'(by omega)).2 = (l[l.length - 2]'(by omega)).2
   ·have cut2 : cutL (RV l) 0 (l.length - 1 - 0) = RV (l.take (l.length - 1)) := by rw [RV_cut]; simp
    rw [if_pos h3, if_pos (by omega), if_pos (by omega), cut2]
    rw [le, h3, if_pos (beq_self_eq_true _)] at h
    exact h
   ·rw [if_neg h3]
    rw [le, if_neg (by simpa using h3)] at h
    exact h
  ·have le : lastExp l = false := by
    unfold lastExp
    simp [h1, h2]
   rw [if_neg (by omega)]
   rw [le, if_neg (by simp)] at h
   exact h
theorem lastExp_pos {l : List Rec} (h : lastExp l = true) : 1 ≤ l.length := by
 unfold lastExp at h
 simp only [Bool.or_eq_true, Bool.and_eq_true, decide_eq_true_eq] at h
 omega
theorem leapsR_len (l : List Rec) : (leapsR l).length = if lastExp l = true then l.length - 1 else l.length := by
 unfold leapsR
 split
 ·rw [List.length_take]; omega
 ·rfl
theorem sExpiry (l : List Rec) (hl : l.length ≤ 100000) {K : Int → Bool → Prop} (h : ∀ n, K n (lastExp l)) : Xrecord_Expiry (RV l) K := by
 unfold Xrecord_Expiry Yrecord_Expiry
 refine sLeaps l hl ?_
 simp only [RV_len, decide_eq_true_eq, leapsR_len]
 cases e : lastExp l
 ·rw [if_neg (by simp)]
  have := h 0
  rw [e] at this; exact this
 ·have := lastExp_pos e
  rw [if_pos (by simp; omega), if_pos (by simp; omega)]
  simp only [if_true, Int.toNat_natCast]
  refine asR1 (by omega) ?_
  have := h (l[l.length - 1]'(by omega)).1
  rw [e] at this; exact this
/-- Names that were laid, and where. -/
def hadM (hs : List (List UInt8 × Int)) : List (Value × V) := hs.map fun x => (.string (S x.1), .c (.int .i64 x.2))
theorem bs_beq (a b : List UInt8) : (S a == S b) = (a == b) := by
 rw [Bool.eq_iff_iff, MapKept.bytes_beq, beq_iff_eq]
 constructor
 ·intro h
  rw [← S_toList a, ← S_toList b, h]
 ·intro h; rw [h]
theorem get_had (s : List UInt8) : ∀ hs : List (List UInt8 × Int), mpGet (S s) (hadM hs) = some ((hs.find? fun x => x.1 == s).map fun x => V.c (.int .i64 x.2))
 | [] => rfl
 | x :: hs => by
  show (bif S s == S x.1 then _ else _) = _
  rw [bs_beq, List.find?_cons]
  by_cases e : s = x.1
  ·rw [e]; simp
  ·have e1 : (s == x.1) = false := by simpa using e
   have e2 : (x.1 == s) = false := by simpa using Ne.symm e
   rw [e1, e2]
   exact get_had s hs
theorem put_had (s : List UInt8) (p : Int) : ∀ hs : List (List UInt8 × Int), hs.find? (fun x => x.1 == s) = none → mpPut (S s) (.c (.int .i64 p)) (hadM hs) = hadM (hs ++ [(s, p)])
 | [], _ => rfl
 | x :: hs, h => by
  rw [List.find?_cons] at h
  cases e : (x.1 == s)
  ·rw [e] at h
   have e1 : (s == x.1) = false := by
    rw [beq_eq_false_iff_ne] at e ⊢; exact Ne.symm e
   show (bif S s == S x.1 then _ else _) = _
   rw [bs_beq, e1]
   show _ :: mpPut (S s) _ (hadM hs) = _
   rw [put_had s p hs h]; rfl
  ·rw [e] at h; cases h
theorem poolN_congr : ∀ (l a b : List (List UInt8)), (∀ s, a.contains s = b.contains s) → poolN a l = poolN b l
 | [], a, b, h => rfl
 | s :: r, a, b, h => by
  rw [poolN, poolN, h s]
  split
  ·exact poolN_congr r a b h
  ·rw [poolN_congr r (s :: a) (s :: b) fun t => by simp only [List.contains_cons, h t]]
theorem poolN_le : ∀ (l a : List (List UInt8)), (∀ s ∈ l, s.length ≤ 10000) → poolN a l ≤ 10001 * l.length
 | [], a, h => by simp [poolN]
 | s :: r, a, h => by
  rw [poolN, List.length_cons]
  have h1 := h s (.head _)
  split
  ·have := poolN_le r a fun t ht => h t (.tail _ ht); omega
  ·have := poolN_le r (s :: a) fun t ht => h t (.tail _ ht); omega
def NV (l : List (List UInt8)) : List V := l.map fun s => .c (.string (S s))
theorem NV_len (l : List (List UInt8)) : (NV l).length = l.length := by simp [NV]
theorem asN {l : List (List UInt8)} {i : Nat} (h : i < l.length) {F : Prop} {K : ByteArray → Prop} (hk : K (S l[i])) : Eng.asStr (getC (NV l) i 0) F K := by
 have : getC (NV l) i 0 = some (.c (.string (S l[i]))) := by simp [getC, NV, V.cells, h]
 rw [this]; simpa [Eng.asStr] using hk
theorem room8 (n : Nat) (h : n ≤ 100000000) : roomOk n 8 = true := by
 unfold roomOk; simp only [decide_eq_true_eq]; omega
theorem room16 (n : Nat) (h : n ≤ 100000000) : roomOk n 16 = true := by
 unfold roomOk; simp only [decide_eq_true_eq]; omega
theorem room32 (n : Nat) (h : n ≤ 100000000) : roomOk n 32 = true := by
 unfold roomOk; simp only [decide_eq_true_eq]; omega
theorem sPool (l : List (List UInt8)) (hl : l.length ≤ 1000) (hs : ∀ s ∈ l, s.length ≤ 10000) {K : ByteArray → Bool → List V → Bool → Bool → Prop}
  (h : ∀ p at' o z, p.size ≤ 100000000 → (l.all abbrL && decide (poolN [] l ≤ 256)) = true → p.size = poolN [] l → K p true at' o z)
  (h' : (l.all abbrL && decide (poolN [] l ≤ 256)) = false → ∀ p at' o z, K p false at' o z) : Xabbr_Pool (NV l) K := by
 unfold Xabbr_Pool Yabbr_Pool
 rw [NV_len]
 refine lp_ind (fun x => l.length - x.1.2.2.2.2.2.2.1.toNat) (fun x => ∃ (j : Nat) (p : List UInt8) (hd : List (List UInt8 × Int)) (at' : List V), j ≤ l.length ∧ x = ((S p, (), false, (), NV l, (l.length : Int), (j : Int), ()), hadM hd, at', ()) ∧
  (l.take j).all abbrL = true ∧ p.length + poolN (hd.map (·.1)) (l.drop j) = poolN [] l ∧ at'.length = j) ?_ ⟨0, [], [], [], by omega, rfl, rfl, by simp, rfl⟩
 rintro x ⟨j, p, hd, at', hj, rfl, hall, hp, hat⟩ k hk
 have hle := poolN_le l [] hs
 unfold Labbr_Pool_0
 simp only [decide_eq_true_eq, NV_len]
 by_cases e : j = l.length
 ·rw [if_neg (by omega)]
  rw [e, List.take_length] at hall
  rw [e, List.drop_length] at hp
  have hp' : p.length = poolN [] l := by simpa [poolN] using hp
  by_cases h2 : ((S p).size : Int) > 256
  ·rw [if_pos h2]
   rw [S_size] at h2
   exact h' (by rw [hall]; simp; omega) _ _ _ _
  ·rw [if_neg h2]
   rw [S_size] at h2
   exact h _ _ _ _ (by rw [S_size]; omega) (by rw [hall]; simp; omega) (by rw [S_size]; exact hp')
 ·have hj' : j < l.length := by omega
  rw [Int.toNat_natCast, if_pos (by omega), if_pos (by omega)]
  refine asN hj' ?_
  refine sabbr _ ?_
  have hd' : l.drop j = l[j] :: l.drop (j + 1) := List.drop_eq_getElem_cons hj'
  have ht : l.take (j + 1) = l.take j ++ [l[j]] := List.take_succ_eq_append_getElem hj'
  have hsl := hs l[j] (List.getElem_mem hj')
  have hmem := List.getElem_mem hj'
  rw [hd'] at hp
  generalize l[j] = s at *
  cases ha : abbrL s
  ·simp only [Bool.not_false, if_true]
   refine h' ?_ _ _ _ _
   have : l.all abbrL = false := by
    rw [Bool.eq_false_iff]; intro h; rw [List.all_eq_true.1 h s hmem] at ha; cases ha
   rw [this]; rfl
  ·simp only [Bool.not_true, Bool.false_eq_true, if_false]
   rw [get_had]
   have hall' : (l.take (j + 1)).all abbrL = true := by rw [ht, List.all_append, hall]; simp [ha]
   have e1 : w64 ((j : Int) + 1) = ((j + 1 : Nat) : Int) := by rw [w64_in (by omega) (by omega)]; omega
   have step : ∀ (p' : List UInt8) (hd2 : List (List UInt8 × Int)) (v : V), p'.length + poolN (hd2.map (·.1)) (l.drop (j + 1)) = poolN [] l → k ((S p', (), false, (), NV l, (l.length : Int), ((j + 1 : Nat) : Int), ()), hadM hd2, at' ++ [v], ()) := fun p' hd2 v hq => by
    refine hk _ ⟨j + 1, p', hd2, at' ++ [v], by omega, rfl, hall', hq, by simp [hat]⟩ ?_
    show l.length - ((j + 1 : Nat) : Int).toNat < l.length - ((j : Nat) : Int).toNat
    omega
   rw [poolN] at hp
   cases hf : hd.find? (fun x => x.1 == s) with
   | none =>
    have hc : (hd.map (·.1)).contains s = false := by
     rw [Bool.eq_false_iff]
     intro hc
     rw [List.contains_iff_mem, List.mem_map] at hc
     obtain ⟨y, hy, hys⟩ := hc
     have := List.find?_eq_none.1 hf y hy
     simp [hys] at this
    rw [hc, if_neg (by simp)] at hp
    simp only [Option.map_none, Eng.asMpI, Bool.not_false, if_true, Option.isSome_some]
    have hps : p.length ≤ 100000000 := by omega
    rw [if_neg (by rw [S_size]; omega)]
    have es : S s ++ ByteArray.mk #[(0 : UInt8)] = S (s ++ [0]) := S_append s [0]
    rw [es, S_append, S_size, S_size, if_neg (by simp; omega)]
    simp only [lt]
    rw [if_pos (room8 _ (by simp; omega)), put_had s _ hd hf, e1]
    refine step (p ++ (s ++ [0])) (hd ++ [(s, (p.length : Int))]) _ ?_
    rw [← hp, poolN_congr (l.drop (j + 1)) _ (s :: hd.map (·.1)) fun t => by
     rw [Bool.eq_iff_iff, List.contains_iff_mem, List.contains_iff_mem, List.map_append, List.mem_append, List.mem_cons]
     simp only [List.map_cons, List.map_nil, List.mem_singleton]
     exact ⟨fun h => h.symm, fun h => h.symm⟩]
    simp only [List.length_append, List.length_singleton]
    omega
   | some y =>
    have hy := List.find?_some hf
    have hc : (hd.map (·.1)).contains s = true := by
     rw [List.contains_iff_mem, List.mem_map]
     exact ⟨y, List.mem_of_find?_eq_some hf, by simpa using hy⟩
    rw [hc, if_pos rfl] at hp
    simp only [Option.map_some, Eng.asMpI, if_true, Bool.not_true, Bool.false_eq_true, if_false]
    rw [if_pos (room8 _ (by simp; omega)), e1]
    exact step p hd _ hp
end Go.Proofs.YtenaflbcnkalbaaGreatDoor
end
section
set_option linter.unusedVariables false
set_option linter.unusedSimpArgs false
namespace Go.Proofs.YtenaflbcnkalbaaGreatDoor
open Go Go.Proofs.YtenaflbcnkalbaaGreatDoor.Eng Go.Proofs.YtenaflbcnkalbaaGreatDoor.Pl
set_option maxRecDepth 100000
set_option maxHeartbeats 2000000
/-- A zone as it comes in: whole numbers that go, rows that are not too long. -/
structure ZI (z : Zn) : Prop where
 ty : z.ty.length ≤ 100
 tr : z.tr.length ≤ 300
 lp : z.lp.length ≤ 300
 ft : z.ft.length ≤ 200
 nm : ∀ t ∈ z.ty, t.2.2.length ≤ 100
 ri : recI z.lp
 ti : recI z.tr
 v : i64r z.v
theorem tupZ_eq (z : Zn) : tupZ z = (TV z.ty, RV z.tr, RV z.lp, S z.ft, z.v, ()) := rfl
theorem spool (z : Zn) (h : ZI z) {K : ByteArray → Bool → List V → Bool → Bool → Prop}
  (hk : ∀ p at' o y, p.size ≤ 100000000 → ((z.ty.map (·.2.2)).all abbrL && decide (poolN [] (z.ty.map (·.2.2)) ≤ 256)) = true → p.size = poolN [] (z.ty.map (·.2.2)) → K p true at' o y)
  (hk' : ((z.ty.map (·.2.2)).all abbrL && decide (poolN [] (z.ty.map (·.2.2)) ≤ 256)) = false → ∀ p at' o y, K p false at' o y) : Xblock_pool (tupZ z) K := by
 unfold Xblock_pool Yblock_pool
 simp only [tupZ_eq, TV_len]
 refine lp_at (fun j => ((ByteArray.mk #[], (), false, (), TV z.ty, (z.ty.length : Int), (j : Int), ()), NV ((z.ty.map (·.2.2)).take j), ())) z.ty.length rfl fun n hn k hkk => ?_
 unfold Lblock_pool_0
 simp only [decide_eq_true_eq, TV_len]
 by_cases e : n = z.ty.length
 ·rw [if_neg (by omega), List.take_of_length_le (by simp; omega)]
  refine sPool _ (by have := h.ty; simp; omega) (fun s hs => ?_) hk hk'
  obtain ⟨t, ht, rfl⟩ := List.mem_map.1 hs
  have := h.nm t ht; omega
 ·have hn' : n < z.ty.length := by omega
  have hk' := hkk hn'
  have e1 : w64 ((n : Int) + 1) = ((n + 1 : Nat) : Int) := by have := h.ty; rw [w64_in (by omega) (by omega)]; omega
  rw [Int.toNat_natCast, if_pos (by omega), if_pos (by omega)]
  refine asT1 hn' (asT2 hn' (asT3 hn' ?_))
  rw [if_pos (room16 _ (by rw [NV_len]; have := h.ty; simp; omega)), e1]
  refine (congrArg k ?_).mp hk'
  have : NV ((z.ty.map (·.2.2)).take (n + 1)) = NV ((z.ty.map (·.2.2)).take n) ++ [.c (.string (S (z.ty[n]).2.2))] := by
   rw [List.take_succ_eq_append_getElem (by simpa using hn')]
   simp [NV]
  rw [this]
theorem hwithin (n a b : Int) {K : Bool → Prop} (h : K (nin n a b)) : Xhead_within n a b K := by
 unfold Xhead_within Yhead_within
 unfold nin at h
 simp only [decide_eq_true_eq]
 by_cases h1 : n ≥ a
 ·rw [if_pos h1]
  have : decide (a ≤ n ∧ n ≤ b) = decide (n ≤ b) := by simp; intro _; omega
  rw [this] at h; exact h
 ·rw [if_neg h1]
  have : decide (a ≤ n ∧ n ≤ b) = false := by simp; omega
  rw [this] at h; exact h
theorem shead (v lp tr ty ch : Int) {K : Bool → Prop} (h : K (nin lp 0 201 && nin tr 0 2000 && nin ty 1 64 && nin ch 1 256 && nin v 1 4)) : Xhead_Right (v, 0, 0, lp, tr, ty, ch, ()) K := by
 unfold Xhead_Right Yhead_Right
 refine hwithin _ _ _ ?_
 cases h1 : nin lp 0 201
 ·rw [h1] at h
  simp only [Bool.false_and] at h
  simp only [Bool.false_eq_true, if_false, beq_self_eq_true, if_true]
  exact h
 rw [h1] at h
 rw [if_pos rfl]
 refine hwithin _ _ _ ?_
 cases h2 : nin tr 0 2000
 ·rw [h2] at h
  simp only [Bool.false_and, Bool.and_false] at h
  simp only [Bool.false_eq_true, if_false, beq_self_eq_true, if_true]
  exact h
 rw [h2] at h
 rw [if_pos rfl]
 refine hwithin _ _ _ ?_
 cases h3 : nin ty 1 64
 ·rw [h3] at h
  simp only [Bool.false_and, Bool.and_false] at h
  simp only [Bool.false_eq_true, if_false, beq_self_eq_true, if_true]
  exact h
 rw [h3] at h
 rw [if_pos rfl]
 refine hwithin _ _ _ ?_
 simp only [beq_self_eq_true, if_true]
 cases h4 : nin ch 1 256
 ·rw [h4] at h
  simp only [Bool.false_and, Bool.and_false] at h
  simp only [Bool.false_eq_true, if_false]
  exact h
 rw [h4] at h
 rw [if_pos rfl]
 refine hwithin _ _ _ ?_
 simpa using h
theorem scount (z : Zn) (h : ZI z) {K : Int × Int × Int × Int × Int × Int × Int × Unit → Bool → Prop} (hk : ∀ r, K r (countOk z)) : Xblock_Count (tupZ z) K := by
 unfold Xblock_Count Yblock_Count
 have hk1 : ∀ r b, b = countOk z → K r b := fun r b e => e ▸ hk r
 refine spool z h (fun p at' o y hp hok hsz => ?_) fun hbad p at' o y => ?_
 ·rw [if_neg (by simp)]
  simp only [tupZ_eq, TV_len, RV_len, hsz]
  refine shead _ _ _ _ _ ?_
  have e : countOk z = (nin z.lp.length 0 201 && nin z.tr.length 0 2000 && nin z.ty.length 1 64 && nin (poolN [] (z.ty.map (·.2.2)) : Nat) 1 256 && nin z.v 1 4) := by
   unfold countOk
   rw [hok, Bool.true_and]
  cases hb : (nin z.lp.length 0 201 && nin z.tr.length 0 2000 && nin z.ty.length 1 64 && nin (poolN [] (z.ty.map (·.2.2)) : Nat) 1 256 && nin z.v 1 4)
  ·rw [if_pos (show (!false) = true from rfl)]; exact hk1 _ _ (by rw [e, hb])
  ·rw [if_neg (by simp)]; exact hk1 _ _ (by rw [e, hb])
 ·rw [if_pos (show (!false) = true from rfl)]
  refine hk1 _ _ ?_
  unfold countOk
  rw [hbad]; simp
theorem sallT (l : List Ty) (hl : l.length ≤ 100000) {K : Bool → Prop} (h : K (l.all (fun t => decide (-89999 ≤ t.1 ∧ t.1 ≤ 93599)))) : Xzone_all_api_Type_ (TV l) K := by
 unfold Xzone_all_api_Type_ Yzone_all_api_Type_
 rw [TV_len]
 refine lp_ind (fun x => l.length - x.1.2.2.2.2.1.toNat) (fun x => ∃ j : Nat, j ≤ l.length ∧ x = ((((), ()), false, TV l, (l.length : Int), (j : Int), ()), ()) ∧ (l.take j).all (fun t => decide (-89999 ≤ t.1 ∧ t.1 ≤ 93599)) = true) ?_ ⟨0, by omega, rfl, rfl⟩
 rintro x ⟨j, hj, rfl, hall⟩ k hk
 unfold Lzone_all_api_Type__0
 simp only [decide_eq_true_eq, TV_len]
 by_cases e : j = l.length
 ·rw [if_neg (by omega)]
  rw [e, List.take_length] at hall
  rw [hall] at h; exact h
 ·have hj' : j < l.length := by omega
  rw [Int.toNat_natCast, if_pos (by omega), if_pos (by omega)]
  refine asT1 hj' (asT2 hj' (asT3 hj' ?_))
  have ht : l.take (j + 1) = l.take j ++ [l[j]] := List.take_succ_eq_append_getElem hj'
  have hmem := List.getElem_mem hj'
  generalize l[j] = t at *
  have e1 : w64 ((j : Int) + 1) = ((j + 1 : Nat) : Int) := by rw [w64_in (by omega) (by omega)]; omega
  unfold Xzone_Right_1 Yzone_Right_1
  simp only [decide_eq_true_eq, e1]
  have bad : ¬ (-89999 ≤ t.1 ∧ t.1 ≤ 93599) → K false := fun hn => by
   have : l.all (fun t => decide (-89999 ≤ t.1 ∧ t.1 ≤ 93599)) = false := by
    rw [Bool.eq_false_iff]; intro hh; exact hn (by simpa using List.all_eq_true.1 hh t hmem)
   rw [this] at h; exact h
  by_cases h1 : t.1 ≥ -89999
  ·rw [if_pos h1]
   by_cases h2 : t.1 ≤ 93599
   ·rw [if_neg (by simpa using h2)]
    refine hk _ ⟨j + 1, by omega, rfl, ?_⟩ ?_
    ·rw [ht, List.all_append, hall]; simp; exact ⟨h1, h2⟩
    ·show l.length - ((j + 1 : Nat) : Int).toNat < l.length - ((j : Nat) : Int).toNat
     omega
   ·rw [if_pos (by simpa using h2)]; exact bad (by omega)
  ·rw [if_neg h1, if_pos (by simp)]; exact bad (by omega)
end Go.Proofs.YtenaflbcnkalbaaGreatDoor
end
section
set_option linter.unusedVariables false
set_option linter.unusedSimpArgs false
namespace Go.Proofs.YtenaflbcnkalbaaGreatDoor
open Go Go.Proofs.YtenaflbcnkalbaaGreatDoor.Eng Go.Proofs.YtenaflbcnkalbaaGreatDoor.Pl
theorem kind_iff {o : Int} {d : Bool} {l : List UInt8} {w : Bool} : kindR o d l w = true ↔ abbrL l = true ∧ d = w ∧ -89999 ≤ o ∧ o ≤ 89999 := by
 unfold kindR; simp [and_assoc]
theorem sruleAtR (r : Ru) (y : Int) {K} (h : if (1 ≤ y ∧ y ≤ 9999) ∧ r.ok = true then K (r.at y) true else K 0 false) : Xrule_At (tupRu r) y K := by
 refine sruleAt _ _ _ _ _ _ ?_
 by_cases e : (1 ≤ y ∧ y ≤ 9999) ∧ rightR r.k r.a r.b r.c r.x = true
 ·have e' : (1 ≤ y ∧ y ≤ 9999) ∧ r.ok = true := e
  rw [if_pos e'] at h
  rw [if_pos e, decide_eq_true e]; exact h
 ·have e' : ¬ ((1 ≤ y ∧ y ≤ 9999) ∧ r.ok = true) := e
  rw [if_neg e'] at h
  rw [if_neg e, decide_eq_false e]; exact h
theorem sfootSpan (f : Ft) (y : Int) {K} (h : if f.spans y then K (f.from' y) (f.to' y) true else K 0 0 false) : Xfoot_Span (tupFt f) y K := by
 unfold Xfoot_Span Yfoot_Span
 by_cases eh : f.has = true
 ·refine ifF (by simp [eh]) (sfootRight f ?_)
  by_cases e : f.ok = true
  ·refine ifF (by simp [e]) (sruleAtR f.fr y ?_)
   have e' := e
   unfold Ft.ok at e'
   rw [if_pos eh, Bool.and_eq_true, Bool.and_eq_true, Bool.and_eq_true] at e'
   obtain ⟨e0, ⟨e1, e2⟩, e3⟩ := e'
   obtain ⟨k1, k2, k3, k4⟩ := kind_iff.1 e0
   obtain ⟨j1, j2, j3, j4⟩ := kind_iff.1 e1
   have r1 := (right_iff _ _ _ _ _).1 e2
   have r2 := (right_iff _ _ _ _ _).1 e3
   by_cases ey : 1 ≤ y ∧ y ≤ 9999
   ·have hsp : f.spans y := ⟨eh, e, ey.1, ey.2⟩
    rw [if_pos hsp] at h
    have d1 := ruleDay_bd ey e2
    have d2 := ruleDay_bd ey e3
    have hf := fst_bd ey.1 ey.2
    have hf2 := fst_succ y
    refine ifT ⟨ey, e2⟩ (ifF (by simp) (sruleAtR f.to y (ifT ⟨ey, e3⟩ ?_)))
    unfold Ft.from' Ft.to' at h
    show K (w64 (f.fr.at y - f.so)) (w64 (f.to.at y - f.wo)) true
    unfold Ru.at at h ⊢
    rw [w64_in (by omega) (by omega), w64_in (by omega) (by omega)]
    exact h
   ·rw [if_neg (fun h => ey ⟨h.2.2.1, h.2.2.2⟩)] at h
    exact ifF (fun h => ey h.1) (ifT rfl h)
  ·rw [if_neg (fun h => e h.2.1)] at h
   exact ifT (by simpa using e) h
 ·rw [if_neg (fun h => eh h.1)] at h
  exact ifT (by simpa using eh) h
theorem syear (n : Int) (h0 : -9223372036854775808 ≤ n) (h1 : n ≤ 9223372036854775807) {K} (h : if inDays n then K (yearP (n / 86400)) true else K 0 false) : Xfoot_year n K := by
 rw [Xfoot_year, Yfoot_year]
 refine sdiv _ _ h0 h1 (by omega) (by omega) (sday _ ?_)
 by_cases e : inDays n
 ·rw [if_pos e] at h
  exact ifT e h
 ·rw [if_neg e] at h
  exact ifF e h
theorem sfootLookup (f : Ft) (p : Int) (hp : -9223372036854775808 ≤ p ∧ p ≤ 9223372036854775807) (ho : -9223372036854775808 ≤ f.so ∧ f.so ≤ 9223372036854775807) {K} (h : if f.sum p then K (f.wo, f.wd, S f.wa, ()) else K (f.so, f.sd, S f.sa, ())) : Xfoot_Lookup (tupFt f) p K := by
 unfold Xfoot_Lookup Yfoot_Lookup
 refine sadd _ _ hp ho ?_
 have std : ¬ f.sum p → K (f.so, f.sd, S f.sa, ()) := fun hn => by rw [if_neg hn] at h; exact h
 have dst : f.sum p → K (f.wo, f.wd, S f.wa, ()) := fun hn => by rw [if_pos hn] at h; exact h
 by_cases e : -9223372036854775808 ≤ p + f.so ∧ p + f.so ≤ 9223372036854775807
 ·refine ifT e (syear _ e.1 e.2 ?_)
  by_cases ed : inDays (p + f.so)
  ·refine ifT ed (sfootSpan f _ ?_)
   by_cases es : f.spans (yearP ((p + f.so) / 86400))
   ·refine ifT es (ifF (by simp) (ifF (by simp) (ifF (by simp) ?_)))
    have hs : f.sum p ↔ ((f.from' (yearP ((p + f.so) / 86400)) ≤ p ∧ p < f.to' (yearP ((p + f.so) / 86400))) ∨ (f.to' (yearP ((p + f.so) / 86400)) ≤ f.from' (yearP ((p + f.so) / 86400)) ∧ (f.from' (yearP ((p + f.so) / 86400)) ≤ p ∨ p < f.to' (yearP ((p + f.so) / 86400))))) :=
     ⟨fun h => h.2.2, fun h => ⟨ed, es, h⟩⟩
    simp only [decide_eq_true_eq, ge_iff_le]
    generalize f.from' (yearP ((p + f.so) / 86400)) = a at *
    generalize f.to' (yearP ((p + f.so) / 86400)) = b at *
    refine ifC (fun h1 => ifC (fun h2 => dst (hs.2 (by omega))) fun h2 => ifC (fun h3 => ifC (fun h4 => dst (hs.2 (by omega))) fun h4 => absurd h1 h4) fun h3 => std (fun h => by have := hs.1 h; omega))
     fun h1 => ifC (fun h3 => ifC (fun h4 => absurd h4 h1) fun h4 => ifC (fun h5 => dst (hs.2 (by omega))) fun h5 => std (fun h => by have := hs.1 h; omega)) fun h3 => std (fun h => by have := hs.1 h; omega)
   ·exact ifF es (ifF (by simp) (ifF (by simp) (ifT (by simp) (std fun h => es h.2.1))))
  ·refine ifF ed (sfootSpan f _ ?_)
   have : ¬ f.spans 0 := fun h => by have := h.2.2.1; omega
   exact ifF this (ifF (by simp) (ifT (by simp) (std fun h => ed h.1)))
 ·refine ifF e (syear 0 (by omega) (by omega) ?_)
  have h0 : inDays 0 := by unfold inDays; omega
  refine ifT h0 (sfootSpan f _ ?_)
  have out : ¬ f.sum p := fun h => e (by have := h.1; unfold inDays at this; omega)
  refine ifC (fun _ => ifT (by simp) (std out)) fun _ => ifT (by simp) (std out)
end Go.Proofs.YtenaflbcnkalbaaGreatDoor
end
section
set_option linter.unusedVariables false
set_option linter.unusedSimpArgs false
namespace Go.Proofs.YtenaflbcnkalbaaGreatDoor
open Go Go.Proofs.YtenaflbcnkalbaaGreatDoor.Eng Go.Proofs.YtenaflbcnkalbaaGreatDoor.Pl
def i64 (n : Int) : Prop := -9223372036854775808 ≤ n ∧ n ≤ 9223372036854775807
theorem ok_so {f : Ft} (h : f.ok = true) : -89999 ≤ f.so ∧ f.so ≤ 89999 ∧ f.sd = false ∧ abbrL f.sa = true := by
 unfold Ft.ok at h
 rw [Bool.and_eq_true] at h
 obtain ⟨k1, k2, k3, k4⟩ := kind_all.1 h.1
 exact ⟨k3, k4, k2, k1⟩
theorem not_true (b : Bool) : ((!b) = true) = ¬ (b = true) := by cases b <;> simp
end Go.Proofs.YtenaflbcnkalbaaGreatDoor
end
section
set_option linter.unusedVariables false
set_option linter.unusedSimpArgs false
namespace Go.Proofs.YtenaflbcnkalbaaGreatDoor
open Go Go.Proofs.YtenaflbcnkalbaaGreatDoor.Eng Go.Proofs.YtenaflbcnkalbaaGreatDoor.Pl
set_option maxRecDepth 100000
set_option maxHeartbeats 2000000
/-- Sorted by when. -/
def Srt (l : List Rec) : Prop := ∀ (s t : Nat) (hs : s < l.length) (ht : t < l.length), s ≤ t → (l[s]).1 ≤ (l[t]).1
theorem half {i j : Nat} (h : i + j ≤ 1000000) : w64 (Int.fdiv (wu64 (w64 ((i : Int) + (j : Int)))) 2) = (((i + j) / 2 : Nat) : Int) := by
 have e1 : w64 ((i : Int) + (j : Int)) = (i : Int) + (j : Int) := w64_in (by omega) (by omega)
 have e2 : wu64 ((i : Int) + (j : Int)) = (i : Int) + (j : Int) := by
  simp only [wu64, IntKind.wrap, IntKind.bits, IntKind.signed]
  try simp
  try omega
 rw [e1, e2, Int.fdiv_eq_ediv_of_nonneg _ (by omega), w64_in (by omega) (by omega)]
 omega
/-- Halving: what a search keeps. -/
def Bin (q : Rec → Bool) (l : List Rec) (i j : Nat) : Prop := i ≤ j ∧ j ≤ l.length ∧ (∀ t (ht : t < l.length), t < i → q l[t] = false) ∧ (∀ t (ht : t < l.length), j ≤ t → q l[t] = true)
def Mono (q : Rec → Bool) (l : List Rec) : Prop := ∀ (s t : Nat) (hs : s < l.length) (ht : t < l.length), s ≤ t → q l[s] = true → q l[t] = true
theorem Bin.low {q : Rec → Bool} {l : List Rec} {i j h : Nat} (hb : Bin q l i j) (hm : Mono q l) (h1 : i ≤ h) (h2 : h < j) (hl : h < l.length) (hq : q l[h] = false) : Bin q l (h + 1) j := by
 obtain ⟨b1, b2, b3, b4⟩ := hb
 refine ⟨by omega, b2, fun t ht hlt => ?_, b4⟩
 cases e : q l[t]
 ·rfl
 ·rw [hm t h ht hl (by omega) e] at hq; cases hq
theorem Bin.high {q : Rec → Bool} {l : List Rec} {i j h : Nat} (hb : Bin q l i j) (hm : Mono q l) (h1 : i ≤ h) (h2 : h < j) (hl : h < l.length) (hq : q l[h] = true) : Bin q l i h := by
 obtain ⟨b1, b2, b3, b4⟩ := hb
 exact ⟨by omega, by omega, b3, fun t ht hlt => hm h t hl ht hlt hq⟩
theorem Bin.fl {q : Rec → Bool} {l : List Rec} {i : Nat} (hb : Bin q l i i) : Pl.fl q l = i := by
 obtain ⟨b1, b2, b3, b4⟩ := hb
 exact fl_of q l i b2 b3 fun h => b4 i h (Nat.le_refl _)
theorem gt_mono {l : List Rec} (h : Srt l) (a : Int) : Mono (fun c => decide (c.1 > a)) l := fun s t hs ht hst hq => by
 have := h s t hs ht hst
 simp only [decide_eq_true_eq] at *
 omega
theorem sSearchZ (tr : List Rec) (hs : Srt tr) (hl : tr.length ≤ 100000) (ty lp : List V) (ft : ByteArray) (v a : Int) {K} (h : K (Pl.fl (fun c : Rec => decide (c.1 > a)) tr : Int) ft v a ty false true (RV tr) false true lp false true) :
  Xsort_Search (tr.length : Int) ty (RV tr) lp ft v a K := by
 unfold Xsort_Search Ysort_Search
 refine lp_ind (fun x => (x.1.2.2.2.1 - x.1.2.2.1).toNat) (fun x => ∃ i j : Nat, Bin (fun c : Rec => decide (c.1 > a)) tr i j ∧ x = ((((), (), (), ()), (0 : Int), (i : Int), (j : Int), ()), (ty, RV tr, lp, ft, v, ()), (a, ()), ())) ?_ ⟨0, tr.length, ⟨by omega, by omega, fun t ht h => by omega, fun t ht h => by omega⟩, rfl⟩
 rintro x ⟨i, j, hb, rfl⟩ k hk
 obtain ⟨b1, b2, _, _⟩ := id hb
 unfold Lsort_Search_0
 simp only [decide_eq_true_eq]
 by_cases e : i = j
 ·subst e
  rw [if_neg (by omega)]
  rw [hb.fl] at h; exact h
 ·rw [if_pos (by omega)]
  simp only [lt]
  rw [half (by omega)]
  have hlt : (i + j) / 2 < tr.length := by omega
  unfold Xzone_Index_1 Yzone_Index_1
  rw [RV_len, if_pos (by omega), Int.toNat_natCast]
  refine asR1 hlt ?_
  dsimp only
  have e1 : w64 ((((i + j) / 2 : Nat) : Int) + 1) = (((i + j) / 2 + 1 : Nat) : Int) := by rw [w64_in (by omega) (by omega)]; omega
  cases hq : decide ((tr[(i + j) / 2]).1 > a)
  ·rw [if_pos (show (!false) = true from rfl), e1]
   refine hk _ ⟨(i + j) / 2 + 1, j, hb.low (gt_mono hs a) (by omega) (by omega) hlt hq, rfl⟩ ?_
   show ((j : Int) - (((i + j) / 2 + 1 : Nat) : Int)).toNat < ((j : Int) - (i : Int)).toNat
   omega
  ·rw [if_neg (by simp)]
   refine hk _ ⟨i, (i + j) / 2, hb.high (gt_mono hs a) (by omega) (by omega) hlt hq, rfl⟩ ?_
   show ((((i + j) / 2 : Nat) : Int) - (i : Int)).toNat < ((j : Int) - (i : Int)).toNat
   omega
theorem zIndex (z : Zn) (hz : ZI z) (hs : Srt z.tr) (a : Int) {K : Int → Prop} (h : K ((indexN z a : Int) - 1)) : Xzone_Index (tupZ z) a K := by
 unfold Xzone_Index Yzone_Index
 simp only [tupZ_eq, RV_len]
 refine sSearchZ z.tr hs (by have := hz.tr; omega) _ _ _ _ _ ?_
 have h1 := fl_le (fun c : Rec => decide (c.1 > a)) z.tr
 have h2 := hz.tr
 rw [w64_in (by omega) (by omega)]
 exact h
theorem sSearchS (l : List Rec) (hs : Srt l) (hl : l.length ≤ 100000) (o f : Bool) (a : Int) {K} (h : ∀ o f, K (Pl.fl (fun c : Rec => decide (c.1 > a)) l : Int) a (RV l) o f) : Xsort_Search_1 (l.length : Int) a (RV l) o f K := by
 unfold Xsort_Search_1 Ysort_Search_1
 refine lp_ind (fun x => (x.1.2.2.2.1 - x.1.2.2.1).toNat) (fun x => ∃ (i j : Nat) (y : List V × Bool × Bool), Bin (fun c : Rec => decide (c.1 > a)) l i j ∧ x = ((((), (), (), ()), (0 : Int), (i : Int), (j : Int), ()), (RV l, ()), (a, ()), y, ())) ?_ ⟨0, l.length, _, ⟨by omega, by omega, fun t ht h => by omega, fun t ht h => by omega⟩, rfl⟩
 rintro x ⟨i, j, y, hb, rfl⟩ k hk
 obtain ⟨b1, b2, _, _⟩ := id hb
 unfold Lsort_Search_1_0
 simp only [decide_eq_true_eq]
 by_cases e : i = j
 ·subst e
  rw [if_neg (by omega)]
  have := h false true
  rw [hb.fl] at this; exact this
 ·rw [if_pos (by omega)]
  simp only [lt]
  rw [half (by omega)]
  have hlt : (i + j) / 2 < l.length := by omega
  unfold Xrecord_Sum_1_1 Yrecord_Sum_1_1
  rw [RV_len, if_pos (by omega), Int.toNat_natCast]
  refine asR1 hlt ?_
  dsimp only
  have e1 : w64 ((((i + j) / 2 : Nat) : Int) + 1) = (((i + j) / 2 + 1 : Nat) : Int) := by rw [w64_in (by omega) (by omega)]; omega
  cases hq : decide ((l[(i + j) / 2]).1 > a)
  ·rw [if_pos (show (!false) = true from rfl), e1]
   refine hk _ ⟨(i + j) / 2 + 1, j, _, hb.low (gt_mono hs a) (by omega) (by omega) hlt hq, rfl⟩ ?_
   show ((j : Int) - (((i + j) / 2 + 1 : Nat) : Int)).toNat < ((j : Int) - (i : Int)).toNat
   omega
  ·rw [if_neg (by simp)]
   refine hk _ ⟨i, (i + j) / 2, _, hb.high (gt_mono hs a) (by omega) (by omega) hlt hq, rfl⟩ ?_
   show ((((i + j) / 2 : Nat) : Int) - (i : Int)).toNat < ((j : Int) - (i : Int)).toNat
   omega
theorem sSum (l : List Rec) (hs : Srt (leapsR l)) (hl : l.length ≤ 100000) (a : Int) {K : Int → Prop} (h : K (sumR l a)) : Xrecord_Sum (RV l) a K := by
 unfold Xrecord_Sum Yrecord_Sum
 refine sLeaps l hl ?_
 rw [RV_len]
 have hl2 : (leapsR l).length ≤ 100000 := by rw [leapsR_len]; split <;> omega
 refine sSearchS (leapsR l) hs hl2 _ _ _ fun o f => ?_
 unfold sumR at h
 have h1 := fl_le (fun c : Rec => decide (c.1 > a)) (leapsR l)
 generalize Pl.fl (fun c : Rec => decide (c.1 > a)) (leapsR l) = m at *
 simp only [beq_iff_eq]
 by_cases e : m = 0
 ·subst e
  rw [if_pos (show ((0 : Nat) : Int) = 0 from rfl)]
  exact h
 ·rw [if_neg (by omega)]
  have e1 : w64 ((m : Int) - 1) = ((m - 1 : Nat) : Int) := by rw [w64_in (by omega) (by omega)]; omega
  rw [e1, RV_len, if_pos (by omega), Int.toNat_natCast]
  refine asR2 (by omega) ?_
  have : ((leapsR l).take m).getLast? = some ((leapsR l)[m - 1]'(by omega)) := by
   rw [List.getLast?_eq_getElem?, List.length_take, Nat.min_eq_left h1, List.getElem?_take, if_pos (by omega), List.getElem?_eq_getElem (by omega)]
  rw [this] at h
  exact h
end Go.Proofs.YtenaflbcnkalbaaGreatDoor
end
section
set_option linter.unusedVariables false
set_option linter.unusedSimpArgs false
namespace Go.Proofs.YtenaflbcnkalbaaGreatDoor
open Go Go.Proofs.YtenaflbcnkalbaaGreatDoor.Eng Go.Proofs.YtenaflbcnkalbaaGreatDoor.Pl
set_option maxRecDepth 100000
set_option maxHeartbeats 2000000
theorem trOk_cons (n : Nat) (b : Option Int) (c : Rec) (r : List Rec) : trOk n b (c :: r) = true ↔ ((0 ≤ c.2 ∧ c.2 < n) ∧ (∀ a, b = some a → c.1 > a)) ∧ trOk n (some c.1) r = true := by
 cases b with
 | none => simp [trOk]
 | some a => simp [trOk]
theorem sallTr (ty : List Ty) (tr : List Rec) (hl : tr.length ≤ 100000) (lp : List V) (ft : ByteArray) (v : Int) {K} (h : K (trOk ty.length none tr) ft v (TV ty) false true (RV tr) false true lp false true) :
  Xzone_all_api_Trans_ (RV tr) (TV ty) (RV tr) lp ft v K := by
 unfold Xzone_all_api_Trans_ Yzone_all_api_Trans_
 rw [RV_len]
 refine lp_ind (fun x => tr.length - x.1.2.2.2.2.1.toNat) (fun x => ∃ (j : Nat) (b : Option Int), j ≤ tr.length ∧ x = ((((), (), ()), false, RV tr, (tr.length : Int), (j : Int), ()), (TV ty, RV tr, lp, ft, v, ()), ()) ∧ trOk ty.length b (tr.drop j) = trOk ty.length none tr ∧ (j = 0 → b = none) ∧ (∀ (h0 : 0 < j) (hj : j - 1 < tr.length), b = some (tr[j - 1]).1)) ?_ ⟨0, none, by omega, rfl, rfl, fun _ => rfl, fun h => absurd h (by omega)⟩
 rintro x ⟨j, b, hj, rfl, hok, hb0, hb1⟩ k hk
 unfold Lzone_all_api_Trans__0
 simp only [decide_eq_true_eq, RV_len]
 by_cases e : j = tr.length
 ·rw [if_neg (by omega)]
  have : trOk ty.length none tr = true := by rw [← hok, e, List.drop_length]; rfl
  rw [this] at h; exact h
 ·have hj' : j < tr.length := by omega
  rw [Int.toNat_natCast, if_pos (by omega), if_pos (by omega)]
  refine asR1 hj' (asR2 hj' ?_)
  have hd : tr.drop j = tr[j] :: tr.drop (j + 1) := List.drop_eq_getElem_cons hj'
  rw [hd] at hok
  have hcons := trOk_cons ty.length b tr[j] (tr.drop (j + 1))
  rw [hok] at hcons
  have e1 : w64 ((j : Int) + 1) = ((j + 1 : Nat) : Int) := by rw [w64_in (by omega) (by omega)]; omega
  have bad : ∀ w, w = false → ¬ ((0 ≤ (tr[j]).2 ∧ (tr[j]).2 < ty.length) ∧ (∀ a, b = some a → (tr[j]).1 > a)) → K w ft v (TV ty) false true (RV tr) false true lp false true := fun w hw hn => by
   have : trOk ty.length none tr = false := by
    cases hr : trOk ty.length none tr
    ·rfl
    ·exact absurd (hcons.1 hr).1 hn
   rw [this] at h; rw [hw]; exact h
  have good : ((0 ≤ (tr[j]).2 ∧ (tr[j]).2 < ty.length) ∧ (∀ a, b = some a → (tr[j]).1 > a)) → k ((((), (), ()), false, RV tr, (tr.length : Int), ((j + 1 : Nat) : Int), ()), (TV ty, RV tr, lp, ft, v, ()), ()) := fun hg => by
   refine hk _ ⟨j + 1, some (tr[j]).1, by omega, rfl, ?_, fun h => absurd h (by omega), fun h0 hj => rfl⟩ ?_
   ·rw [Bool.eq_iff_iff]
    exact ⟨fun hr => hcons.2 ⟨hg, hr⟩, fun hr => (hcons.1 hr).2⟩
   ·show tr.length - ((j + 1 : Nat) : Int).toNat < tr.length - ((j : Nat) : Int).toNat
    omega
  unfold Xzone_Right_2 Yzone_Right_2
  simp only [decide_eq_true_eq, TV_len, RV_len, beq_iff_eq, e1]
  by_cases c1 : (tr[j]).2 ≥ 0
  ·rw [if_pos c1]
   by_cases c2 : (tr[j]).2 < (ty.length : Int)
   ·rw [if_pos c2]
    by_cases c3 : j = 0
    ·rw [if_pos (by omega), if_neg (by simp)]
     exact good ⟨⟨c1, c2⟩, fun a ha => by rw [hb0 c3] at ha; cases ha⟩
    ·rw [if_neg (by omega)]
     have e2 : w64 ((j : Int) - 1) = ((j - 1 : Nat) : Int) := by rw [w64_in (by omega) (by omega)]; omega
     rw [e2, if_pos (by omega), Int.toNat_natCast]
     refine asR1 (by omega) ?_
     have hb := hb1 (by omega) (by omega)
     by_cases c4 : (tr[j]).1 > (tr[j - 1]'(by omega)).1
     ·rw [if_neg (by simpa using c4)]
      exact good ⟨⟨c1, c2⟩, fun a ha => by rw [hb] at ha; cases ha; exact c4⟩
     ·rw [if_pos (by simpa using c4)]
      exact bad _ rfl fun hn => c4 (hn.2 _ hb)
   ·rw [if_neg c2, if_pos (show (!false) = true from rfl)]
    exact bad _ rfl fun hn => c2 hn.1.2
  ·rw [if_neg c1, if_pos (show (!false) = true from rfl)]
   exact bad _ rfl fun hn => c1 hn.1.1
theorem sodd (k a b c x : Int) {K : Bool → Prop} (h : K (oddR x)) : Xzone_odd (k, a, b, c, x, ()) K := by
 unfold Xzone_odd Yzone_odd
 unfold oddR at h
 simp only [decide_eq_true_eq]
 by_cases h1 : x < 0
 ·rw [if_pos h1]
  have : decide (x < 0) = true := decide_eq_true h1
  rw [this] at h; exact h
 ·rw [if_neg h1]
  have : decide (x < 0) = false := decide_eq_false h1
  rw [this] at h; exact h
theorem S_nil (l : List UInt8) : (ByteArray.toList (S l) == ByteArray.toList (ByteArray.mk #[])) = l.isEmpty := by
 rw [show ByteArray.mk #[] = S [] from rfl, S_toList, S_toList]
 cases l <;> rfl
theorem sends (z : Zn) (h : ZI z) (X Y L) {K : Bool → Prop} (hk : K (endsOk z)) : Xzone_ends (X, Y, L, S z.ft, z.v, ()) K := by
 unfold Xzone_ends Yzone_ends
 simp only [S_nil]
 unfold endsOk at hk
 cases e : z.ft.isEmpty
 ·rw [e] at hk
  rw [if_neg (by simp)]
  refine sfootParse z.ft (by have := h.ft; omega) ?_
  refine sodd _ _ _ _ _ ?_
  simp only [Bool.false_or] at hk
  generalize (Ft.parse z.ft).1 = f at *
  generalize (Ft.parse z.ft).2 = o at *
  have ge : ∀ n : Int, n = 3 ∨ n = 2 → True := fun _ _ => trivial
  cases h1 : oddR f.fr.x
  ·rw [if_neg (by simp)]
   refine sodd _ _ _ _ _ ?_
   rw [h1] at hk
   cases h2 : oddR f.to.x
   ·rw [h2] at hk
    rw [if_neg (by simp)]
    cases o
    ·simpa using hk
    ·simpa using hk
   ·rw [h2] at hk
    rw [if_pos rfl]
    cases o
    ·simpa using hk
    ·simpa using hk
  ·rw [h1] at hk
   rw [if_pos rfl]
   cases o
   ·simpa using hk
   ·simpa using hk
 ·rw [e] at hk
  rw [if_pos rfl]
  exact hk
theorem sRight (z : Zn) (h : ZI z) {K : Bool → Prop} (hk : K (zoneRight z)) : Xzone_Right (tupZ z) K := by
 show Xzone_Right (TV z.ty, RV z.tr, RV z.lp, S z.ft, z.v, ()) K
 unfold Xzone_Right Yzone_Right
 dsimp only
 unfold zoneRight at hk
 refine scount z h fun r => ?_
 cases e1 : countOk z
 ·rw [e1] at hk
  rw [if_pos (show (!false) = true from rfl)]
  simpa using hk
 rw [e1] at hk
 rw [if_neg (by simp)]
 refine sRecRight z.lp h.ri (by have := h.lp; omega) ?_
 cases e2 : recRight z.lp
 ·rw [e2] at hk
  rw [if_pos (show (!false) = true from rfl)]
  simpa using hk
 rw [e2] at hk
 rw [if_neg (by simp)]
 refine sExpiry z.lp (by have := h.lp; omega) fun n => ?_
 have rest : ∀ {K : Bool → Prop}, K (z.ty.all (fun t => decide (-89999 ≤ t.1 ∧ t.1 ≤ 93599)) && trOk z.ty.length none z.tr && endsOk z) → Xzone_all_api_Type_ (TV z.ty) (fun r20 =>
   Xzone_all_api_Trans_ (RV z.tr) (TV z.ty) (RV z.tr) (RV z.lp) (S z.ft) z.v (fun r21 r22 r23 r24 r25 r26 r27 r28 r29 r30 r31 r32 =>
   (if r20 = true then (if r21 = true then Xzone_ends (r24, r27, r30, r22, r23, ()) (fun r33 => K r33) else K false) else K false))) := by
  intro K hk
  refine sallT z.ty (by have := h.ty; omega) ?_
  refine sallTr z.ty z.tr (by have := h.tr; omega) _ _ _ ?_
  cases e4 : z.ty.all (fun t => decide (-89999 ≤ t.1 ∧ t.1 ≤ 93599))
  ·rw [e4] at hk
   rw [if_neg (by simp)]
   simpa using hk
  rw [e4] at hk
  rw [if_pos rfl]
  cases e5 : trOk z.ty.length none z.tr
  ·rw [e5] at hk
   rw [if_neg (by simp)]
   simpa using hk
  rw [e5] at hk
  rw [if_pos rfl]
  exact sends z h _ _ _ (by simpa using hk)
 cases e3 : lastExp z.lp
 ·rw [e3] at hk
  rw [if_neg (by simp)]
  exact rest (by simpa [Bool.and_assoc] using hk)
 ·rw [e3] at hk
  rw [if_pos rfl]
  by_cases e6 : z.v < 4
  ·rw [if_pos (by simpa using e6)]
   have : decide (z.v ≥ 4) = false := by simp; omega
   rw [this] at hk
   simpa using hk
  ·rw [if_neg (by simpa using e6)]
   have : decide (z.v ≥ 4) = true := by simp; omega
   rw [this] at hk
   exact rest (by simpa [Bool.and_assoc] using hk)
end Go.Proofs.YtenaflbcnkalbaaGreatDoor
end
section
set_option linter.unusedVariables false
set_option linter.unusedSimpArgs false
namespace Go.Proofs.YtenaflbcnkalbaaGreatDoor
open Go Go.Proofs.YtenaflbcnkalbaaGreatDoor.Eng Go.Proofs.YtenaflbcnkalbaaGreatDoor.Pl
set_option maxRecDepth 100000
set_option maxHeartbeats 2000000
theorem trOk_all (n : Nat) : ∀ (l : List Rec) (b : Option Int), trOk n b l = true → (∀ i (h : i < l.length), (∀ a, b = some a → (l[i]).1 > a) ∧ 0 ≤ (l[i]).2 ∧ (l[i]).2 < n) ∧ (∀ (s t : Nat) (hs : s < l.length) (ht : t < l.length), s < t → (l[s]).1 < (l[t]).1)
 | [], b, h => ⟨fun i h => by simp at h, fun s t hs => by simp at hs⟩
 | c :: r, b, h => by
  obtain ⟨⟨h1, h2⟩, h3⟩ := (trOk_cons n b c r).1 h
  obtain ⟨ih1, ih2⟩ := trOk_all n r (some c.1) h3
  refine ⟨fun i hi => ?_, fun s t hs ht hst => ?_⟩
  ·cases i with
   | zero => exact ⟨h2, h1⟩
   | succ i =>
    obtain ⟨q1, q2⟩ := ih1 i (by simpa using hi)
    refine ⟨fun a ha => ?_, q2⟩
    have := q1 _ rfl
    have := h2 a ha
    simp only [List.getElem_cons_succ]
    omega
  ·cases t with
   | zero => omega
   | succ t =>
    cases s with
    | zero => exact (ih1 t (by simpa using ht)).1 _ rfl
    | succ s => exact ih2 s t (by simpa using hs) (by simpa using ht) (by omega)
theorem srt_tr {n : Nat} {l : List Rec} (h : trOk n none l = true) : Srt l := fun s t hs ht hst => by
 rcases Nat.lt_or_ge s t with h1 | h1
 ·have := (trOk_all n l none h).2 s t hs ht h1; omega
 ·have : s = t := by omega
  subst this; omega
theorem recOk_all : ∀ (l : List Rec) (k : Nat) (b : Rec), recOk k b l = true → (∀ i (h : i < l.length), (0 < k → b.1 ≤ (l[i]).1) ∧ 0 ≤ (l[i]).1) ∧ (∀ (s t : Nat) (hs : s < l.length) (ht : t < l.length), s < t → (l[s]).1 ≤ (l[t]).1)
 | [], k, b, h => ⟨fun i h => by simp at h, fun s t hs => by simp at hs⟩
 | c :: r, k, b, h => by
  obtain ⟨⟨h1, h2, h3, h4⟩, h5⟩ := (recOk_cons k b c r).1 h
  obtain ⟨ih1, ih2⟩ := recOk_all r (k + 1) c h5
  refine ⟨fun i hi => ?_, fun s t hs ht hst => ?_⟩
  ·cases i with
   | zero => exact ⟨fun h => by simp only [List.getElem_cons_zero]; omega, h2⟩
   | succ i =>
    obtain ⟨q1, q2⟩ := ih1 i (by simpa using hi)
    refine ⟨fun hk => ?_, q2⟩
    have := q1 (by omega)
    simp only [List.getElem_cons_succ]
    omega
  ·cases t with
   | zero => omega
   | succ t =>
    cases s with
    | zero => exact (ih1 t (by simpa using ht)).1 (by omega)
    | succ s => exact ih2 s t (by simpa using hs) (by simpa using ht) (by omega)
theorem srt_rec {l : List Rec} (h : recRight l = true) : Srt l := fun s t hs ht hst => by
 rcases Nat.lt_or_ge s t with h1 | h1
 ·have := (recOk_all l 0 _ h).2 s t hs ht h1; omega
 ·have : s = t := by omega
  subst this; omega
theorem srt_leaps {l : List Rec} (h : Srt l) : Srt (leapsR l) := by
 unfold leapsR
 split
 ·intro s t hs ht hst
  rw [List.getElem_take, List.getElem_take]
  exact h s t _ _ hst
 ·exact h
structure ZR (z : Zn) : Prop extends ZI z where
 right : zoneRight z = true
theorem ZR.all {z : Zn} (h : ZR z) : countOk z = true ∧ recRight z.lp = true ∧ (lastExp z.lp = true → z.v ≥ 4) ∧ (z.ty.all (fun t => decide (-89999 ≤ t.1 ∧ t.1 ≤ 93599)) = true) ∧ trOk z.ty.length none z.tr = true ∧ endsOk z = true := by
 have := h.right
 unfold zoneRight at this
 simp only [Bool.and_eq_true] at this
 obtain ⟨⟨⟨⟨⟨h1, h2⟩, h3⟩, h4⟩, h5⟩, h6⟩ := this
 refine ⟨h1, h2, fun he => ?_, h4, h5, h6⟩
 rw [he] at h3
 simpa using h3
theorem ZR.one {z : Zn} (h : ZR z) : 1 ≤ z.ty.length := by
 have := h.all.1
 unfold countOk nin at this
 simp only [Bool.and_eq_true, decide_eq_true_eq] at this
 omega
theorem ZR.st {z : Zn} (h : ZR z) : Srt z.tr := srt_tr h.all.2.2.2.2.1
theorem ZR.sl {z : Zn} (h : ZR z) : Srt (leapsR z.lp) := srt_leaps (srt_rec h.all.2.1)
theorem zPosix (z : Zn) (h : ZR z) (a : Int) {K : Int → Prop} (hk : K (posixR z a)) : Xzone_Posix (tupZ z) a K := by
 show Xzone_Posix (TV z.ty, RV z.tr, RV z.lp, S z.ft, z.v, ()) a K
 unfold Xzone_Posix Yzone_Posix
 exact sSum z.lp h.sl (by have := h.lp; omega) a hk
theorem headD_at {α : Type} (l : List α) (d : α) (h : 0 < l.length) : l.headD d = l[0] := by
 cases l with
 | nil => simp at h
 | cons x r => rfl
abbrev tupT (t : Ty) : Int × Bool × ByteArray × Unit := (t.1, t.2.1, S t.2.2, ())
theorem w64_rng (n : Int) : -9223372036854775808 ≤ w64 n ∧ w64 n ≤ 9223372036854775807 := by
 simp only [w64, IntKind.wrap, IntKind.bits, IntKind.signed]
 try simp
 try omega
theorem zFoot (f : Ft) (p : Int) (hp : -9223372036854775808 ≤ p ∧ p ≤ 9223372036854775807) (hf : f.ok = true) {K} (h : K (tupT (f.look p))) : Xfoot_Lookup (tupFt f) p K := by
 obtain ⟨o1, o2, _⟩ := ok_so hf
 refine sfootLookup f p hp ⟨by omega, by omega⟩ ?_
 unfold Ft.look at h
 by_cases e : f.sum p
 ·rw [if_pos e] at h ⊢; exact h
 ·rw [if_neg e] at h ⊢; exact h
theorem zLookup (z : Zn) (h : ZR z) (a : Int) {K} (hk : K (tupT (lookZ z a))) : Xzone_Lookup (tupZ z) a K := by
 unfold Xzone_Lookup Yzone_Lookup
 refine zIndex z h.toZI h.st a ?_
 have hle := fl_le (fun c : Rec => decide (c.1 > a)) z.tr
 have htr := h.tr
 have h1 := h.one
 unfold lookZ at hk
 have hn : indexN z a = Pl.fl (fun c : Rec => decide (c.1 > a)) z.tr := rfl
 rw [← hn] at hle
 generalize indexN z a = m at *
 have e1 : w64 ((m : Int) - 1 + 1) = (m : Int) := by rw [w64_in (by omega) (by omega)]; omega
 simp only [tupZ_eq, S_nil, TV_len, RV_len, e1]
 have found : ¬ (z.ft ≠ [] ∧ m = z.tr.length) → (if decide ((m : Int) - 1 < 0) = true then
   (if (0 : Int) ≤ 0 ∧ 0 < (z.ty.length : Int) then
   (Eng.asInt IntKind.i64 (Eng.getC (TV z.ty) (0 : Nat) (0 : Nat)) False fun n7 =>
   (Eng.asBool (Eng.getC (TV z.ty) (0 : Nat) (1 : Nat)) False fun b8 =>
   (Eng.asStr (Eng.getC (TV z.ty) (0 : Nat) (2 : Nat)) False fun t9 => K (n7, b8, t9, ())))) else False)
   else
   (if 0 ≤ (m : Int) - 1 ∧ (m : Int) - 1 < (z.tr.length : Int) then
   (Eng.asInt IntKind.i64 (Eng.getC (RV z.tr) (Int.toNat ((m : Int) - 1)) (1 : Nat)) False fun n10 =>
   (if 0 ≤ n10 ∧ n10 < (z.ty.length : Int) then
   (Eng.asInt IntKind.i64 (Eng.getC (TV z.ty) (Int.toNat n10) (0 : Nat)) False fun n11 =>
   (Eng.asBool (Eng.getC (TV z.ty) (Int.toNat n10) (1 : Nat)) False fun b12 =>
   (Eng.asStr (Eng.getC (TV z.ty) (Int.toNat n10) (2 : Nat)) False fun t13 => K (n11, b12, t13, ()))))
   else False)) else False)) := fun hno => by
  rw [if_neg hno] at hk
  by_cases hm : m = 0
  ·subst hm
   rw [if_pos (by simp), if_pos (by omega)]
   refine asT1 (by omega) (asT2 (by omega) (asT3 (by omega) ?_))
   have := headD_at z.ty (0, false, []) (by omega)
   simp only [List.take_zero, List.getLast?_nil] at hk
   rw [this] at hk
   exact hk
  ·rw [if_neg (by simp; omega), if_pos (by omega)]
   have e2 : Int.toNat ((m : Int) - 1) = m - 1 := by omega
   rw [e2]
   refine asR2 (by omega) ?_
   obtain ⟨_, q1, q2⟩ := (trOk_all _ _ _ h.all.2.2.2.2.1).1 (m - 1) (by omega)
   have hl : (z.tr.take m).getLast? = some (z.tr[m - 1]'(by omega)) := by
    rw [List.getLast?_eq_getElem?, List.length_take, Nat.min_eq_left hle, List.getElem?_take, if_pos (by omega), List.getElem?_eq_getElem (by omega)]
   rw [hl] at hk
   simp only at hk
   rw [if_pos ⟨q1, q2⟩]
   refine asT1 (by omega) (asT2 (by omega) (asT3 (by omega) ?_))
   rw [getD_at z.ty _ _ (by omega)] at hk
   exact hk
 cases e : z.ft.isEmpty
 ·have hne : z.ft ≠ [] := by
   intro hh; rw [hh] at e; cases e
  rw [if_pos (show (!false) = true from rfl)]
  by_cases hm : m = z.tr.length
  ·rw [if_pos (by simp [hm])]
   rw [if_pos ⟨hne, hm⟩] at hk
   have hp : (Ft.parse z.ft).2 = true := by
    have := h.all.2.2.2.2.2
    unfold endsOk at this
    rw [e] at this
    simp only [Bool.false_or, Bool.and_eq_true] at this
    exact this.1
   refine sfootParse z.ft (by have := h.ft; omega) ?_
   refine zPosix z h a ?_
   exact zFoot _ _ (w64_rng _) (parse_ok _ hp) hk
  ·rw [if_neg (by simp; omega)]
   exact found fun hh => hm hh.2
 ·have hne : z.ft = [] := by
   cases hz : z.ft with
   | nil => rfl
   | cons x r => rw [hz] at e; cases e
  rw [if_neg (by simp)]
  exact found fun hh => hh.1 hne
end Go.Proofs.YtenaflbcnkalbaaGreatDoor
end
section
set_option linter.unusedVariables false
set_option linter.unusedSimpArgs false
namespace Go.Proofs.YtenaflbcnkalbaaGreatDoor
open Go Go.Proofs.YtenaflbcnkalbaaGreatDoor.Eng Go.Proofs.YtenaflbcnkalbaaGreatDoor.Pl
set_option maxRecDepth 100000
set_option maxHeartbeats 2000000
def sameZ (a b : Zn) : Bool := a.ty == b.ty && a.tr == b.tr && a.lp == b.lp && a.ft == b.ft && a.v == b.v
theorem sFew (z : Zn) (hl : z.ty.length ≤ 9223372036854775807) {K : Bool → Prop} (h1 : (z.ty.length ≤ 100 ∧ z.tr.length ≤ 300 ∧ z.lp.length ≤ 300 ∧ z.ft.length ≤ 200 ∧ (∀ t ∈ z.ty, t.2.2.length ≤ 100)) → K true) (h2 : K false) : Xepactlaw16_Few (tupZ z) K := by
 show Xepactlaw16_Few (TV z.ty, RV z.tr, RV z.lp, S z.ft, z.v, ()) K
 unfold Xepactlaw16_Few Yepactlaw16_Few
 have fin : (∀ i (h : i < z.ty.length), i < 100 → ((z.ty[i]).2.2).length ≤ 100) → (if decide ((z.ty.length : Int) ≤ 100) = true then (if decide ((z.tr.length : Int) ≤ 300) = true then (if decide ((z.lp.length : Int) ≤ 300) = true then K (decide (((S z.ft).size : Int) ≤ 200)) else K false) else K false) else K false) := fun hall => by
  rw [S_size]
  by_cases c1 : (z.ty.length : Int) ≤ 100
  ·rw [if_pos (decide_eq_true c1)]
   by_cases c2 : (z.tr.length : Int) ≤ 300
   ·rw [if_pos (decide_eq_true c2)]
    by_cases c3 : (z.lp.length : Int) ≤ 300
    ·rw [if_pos (decide_eq_true c3)]
     by_cases c4 : (z.ft.length : Int) ≤ 200
     ·rw [decide_eq_true c4]
      refine h1 ⟨by omega, by omega, by omega, by omega, fun t ht => ?_⟩
      obtain ⟨i, hi, rfl⟩ := List.getElem_of_mem ht
      exact hall i hi (by omega)
     ·rw [decide_eq_false c4]; exact h2
    ·rw [if_neg (by simpa using c3)]; exact h2
   ·rw [if_neg (by simpa using c2)]; exact h2
  ·rw [if_neg (by simpa using c1)]; exact h2
 refine lp_ind (fun x => 101 - x.1.2.2.1.toNat) (fun x => ∃ j : Nat, j ≤ 100 ∧ j ≤ z.ty.length ∧ x = (((), false, (j : Int), ()), (TV z.ty, RV z.tr, RV z.lp, S z.ft, z.v, ()), ()) ∧ (∀ i (h : i < z.ty.length), i < j → ((z.ty[i]).2.2).length ≤ 100)) ?_ ⟨0, by omega, by omega, rfl, fun i h hi => by omega⟩
 rintro x ⟨j, hj, hj2, rfl, hall⟩ k hk
 unfold Lepactlaw16_Few_0
 dsimp only
 rw [TV_len, RV_len, RV_len]
 by_cases c1 : (j : Int) < (z.ty.length : Int)
 ·rw [if_pos (decide_eq_true c1)]
  by_cases c2 : (j : Int) < 100
  ·rw [if_pos (decide_eq_true c2), if_pos (by omega), Int.toNat_natCast]
   have hj' : j < z.ty.length := by omega
   refine asT3 hj' ?_
   rw [S_size]
   by_cases c3 : (((z.ty[j]).2.2).length : Int) > 100
   ·rw [if_pos (decide_eq_true c3)]; exact h2
   ·rw [if_neg (by simpa using c3)]
    have e1 : w64 ((j : Int) + 1) = ((j + 1 : Nat) : Int) := by rw [w64_in (by omega) (by omega)]; omega
    rw [e1]
    refine hk _ ⟨j + 1, by omega, by omega, rfl, fun i hi hij => ?_⟩ ?_
    ·by_cases ei : i = j
     ·subst ei; omega
     ·exact hall i hi (by omega)
    ·show 101 - ((j + 1 : Nat) : Int).toNat < 101 - ((j : Nat) : Int).toNat
     omega
  ·rw [if_neg (by simpa using c2)]
   exact fin fun i hi h100 => hall i hi (by omega)
 ·rw [if_neg (by simpa using c1)]
  exact fin fun i hi h100 => hall i hi (by omega)
end Go.Proofs.YtenaflbcnkalbaaGreatDoor
end
section
set_option linter.unusedVariables false
set_option linter.unusedSimpArgs false
namespace Go.Proofs.YtenaflbcnkalbaaGreatDoor
open Go Go.Proofs.YtenaflbcnkalbaaGreatDoor.Eng Go.Proofs.YtenaflbcnkalbaaGreatDoor.Pl
set_option maxRecDepth 100000
set_option maxHeartbeats 2000000
theorem cT (a : List Ty) (hl : a.length ≤ 100000) {K : List V → Bool → Bool → Prop} (h : ∀ f, (f = true → a = []) → K (TV a) true f) : Xslices_Clone___api_Type_api_Type_ (TV a) K := by
 unfold Xslices_Clone___api_Type_api_Type_ Yslices_Clone___api_Type_api_Type_
 rw [TV_len, List.nil_append, Nat.zero_add]
 by_cases e : a.length = 0
 ·have e0 : a = [] := List.length_eq_zero_iff.1 e
  rw [if_pos e, if_pos (room32 _ (by omega))]
  subst e0
  exact ⟨h true fun _ => rfl, h false fun _ => rfl⟩
 ·rw [if_neg e, if_pos (room32 _ (by omega))]
  exact h false fun hh => by cases hh
theorem cR1 (a : List Rec) (hl : a.length ≤ 100000) {K : List V → Bool → Bool → Prop} (h : ∀ f, (f = true → a = []) → K (RV a) true f) : Xslices_Clone___api_Trans_api_Trans_ (RV a) K := by
 unfold Xslices_Clone___api_Trans_api_Trans_ Yslices_Clone___api_Trans_api_Trans_
 rw [RV_len, List.nil_append, Nat.zero_add]
 by_cases e : a.length = 0
 ·have e0 : a = [] := List.length_eq_zero_iff.1 e
  rw [if_pos e, if_pos (room16 _ (by omega))]
  subst e0
  exact ⟨h true fun _ => rfl, h false fun _ => rfl⟩
 ·rw [if_neg e, if_pos (room16 _ (by omega))]
  exact h false fun hh => by cases hh
theorem cR2 (a : List Rec) (hl : a.length ≤ 100000) {K : List V → Bool → Bool → Prop} (h : ∀ f, (f = true → a = []) → K (RV a) true f) : Xslices_Clone___api_Corr_api_Corr_ (RV a) K := by
 unfold Xslices_Clone___api_Corr_api_Corr_ Yslices_Clone___api_Corr_api_Corr_
 rw [RV_len, List.nil_append, Nat.zero_add]
 by_cases e : a.length = 0
 ·have e0 : a = [] := List.length_eq_zero_iff.1 e
  rw [if_pos e, if_pos (room16 _ (by omega))]
  subst e0
  exact ⟨h true fun _ => rfl, h false fun _ => rfl⟩
 ·rw [if_neg e, if_pos (room16 _ (by omega))]
  exact h false fun hh => by cases hh
theorem zCopy (z : Zn) (hz : ZI z) {K : Unit × Unit × Unit × ByteArray × Int × Unit → List V → Bool → Bool → List V → Bool → Bool → List V → Bool → Bool → Prop}
  (h : ∀ f g i, (g = true → z.tr = []) → K ((), (), (), S z.ft, z.v, ()) (TV z.ty) true f (RV z.tr) true g (RV z.lp) true i) : Xzone_Copy (tupZ z) K := by
 show Xzone_Copy (TV z.ty, RV z.tr, RV z.lp, S z.ft, z.v, ()) K
 unfold Xzone_Copy Yzone_Copy
 refine cT z.ty (by have := hz.ty; omega) fun f _ => ?_
 refine cR1 z.tr (by have := hz.tr; omega) fun g hg => ?_
 refine cR2 z.lp (by have := hz.lp; omega) fun i _ => ?_
 exact h f g i hg
end Go.Proofs.YtenaflbcnkalbaaGreatDoor
end
section
set_option linter.unusedVariables false
set_option linter.unusedSimpArgs false
namespace Go.Proofs.YtenaflbcnkalbaaGreatDoor
open Go Go.Proofs.YtenaflbcnkalbaaGreatDoor.Eng Go.Proofs.YtenaflbcnkalbaaGreatDoor.Pl
set_option maxRecDepth 100000
set_option maxHeartbeats 2000000
theorem sRecCheck (l : List Rec) (hi : recI l) (hlen : l.length ≤ 100000) {K : Int → Int → Prop} (h : ∀ n, K n (recE l)) : Xrecord_Check (RV l) K := by
 unfold Xrecord_Check Yrecord_Check
 rw [RV_len]
 refine lp_ind (fun x => (l.length : Nat) - x.1.2.2.2.2.2.2.1.toNat) (fun x => ∃ (j : Nat) (b : Rec), j ≤ l.length ∧ x = ((RV l, (0 : Int), (0 : Int), (), RV l, (l.length : Int), (j : Int), ()), (b.1, b.2, ()), ()) ∧ recErr j b (l.drop j) = recE l ∧ (0 < j → 0 ≤ b.1) ∧ i64r b.1 ∧ i64r b.2) ?_ ⟨0, (-2419199, 0), by omega, rfl, rfl, by omega, by unfold i64r; decide, by unfold i64r; decide⟩
 rintro x ⟨j, b, hj, rfl, hok, hb0, hb1, hb2⟩ k hk
 unfold Lrecord_Check_0
 simp only [decide_eq_true_eq, RV_len]
 by_cases e : j = l.length
 ·rw [if_neg (by omega)]
  have : recE l = 0 := by rw [← hok, e, List.drop_length]; rfl
  rw [this] at h
  exact h _
 ·have hj' : j < l.length := by omega
  obtain ⟨hc1, hc2⟩ := hi l[j] (List.getElem_mem hj')
  rw [Int.toNat_natCast, if_pos (by omega), if_pos (by omega)]
  refine asR1 hj' (asR2 hj' ?_)
  have hd : l.drop j = l[j] :: l.drop (j + 1) := List.drop_eq_getElem_cons hj'
  rw [hd, recErr] at hok
  have hre : (l.drop (j + 1)).isEmpty = decide (j + 1 = l.length) := by
   rw [Bool.eq_iff_iff, List.isEmpty_iff, List.drop_eq_nil_iff, decide_eq_true_eq]; omega
  have hre' : ∀ s : Int, ((decide (s = 0) && (l.drop (j + 1)).isEmpty) = true) ↔ (s = 0 ∧ j + 1 = l.length) := fun s => by
   rw [hre, Bool.and_eq_true, decide_eq_true_eq, decide_eq_true_eq]
  have hre'' : ∀ s : Int, ((decide (s = 0) && (l.drop (j + 1)).isEmpty) = false) ↔ ¬ (s = 0 ∧ j + 1 = l.length) := fun s => by
   rw [← hre' s, Bool.not_eq_true]
  simp only [hre', hre''] at hok
  generalize l[j] = c at *
  have e1 : w64 ((j : Int) + 1) = ((j + 1 : Nat) : Int) := by rw [w64_in (by omega) (by omega)]; omega
  have e2 : w64 ((l.length : Int) - 1) = (l.length : Int) - 1 := w64_in (by omega) (by omega)
  have c8 : 200 < j → K (j : Int) 8 := fun q => by rw [if_pos q] at hok; rw [← hok] at h; exact h _
  have c9 : ¬ 200 < j ∧ c.1 < 0 → K (j : Int) 9 := fun q => by rw [if_neg q.1, if_pos q.2] at hok; rw [← hok] at h; exact h _
  have c6 : ¬ 200 < j ∧ ¬ c.1 < 0 ∧ ¬ (c.2 - b.2 = 0 ∧ j + 1 = l.length) ∧ c.2 - b.2 ≠ 1 ∧ c.2 - b.2 ≠ -1 → K (j : Int) 6 := fun q => by
   rw [if_neg q.1, if_neg q.2.1, if_pos q.2.2] at hok; rw [← hok] at h; exact h _
  have c7 : ¬ 200 < j ∧ ¬ c.1 < 0 ∧ ((c.2 - b.2 = 0 ∧ j + 1 = l.length) ∨ c.2 - b.2 = 1 ∨ c.2 - b.2 = -1) ∧ 0 < j ∧ (((c.2 - b.2 = 0 ∧ j + 1 = l.length) ∧ c.1 - b.1 < 0) ∨ (¬ (c.2 - b.2 = 0 ∧ j + 1 = l.length) ∧ c.1 - b.1 < 2419199)) → K (j : Int) 7 := fun q => by
   obtain ⟨q1, q2, q3, q4, q5⟩ := q
   rw [if_neg q1, if_neg q2, if_neg (by omega), if_pos] at hok
   ·rw [← hok] at h; exact h _
   ·refine ⟨q4, ?_⟩
    rcases q5 with q5 | q5
    ·rw [if_pos q5.1]; exact q5.2
    ·rw [if_neg q5.1]; exact q5.2
  have good : (j ≤ 200 ∧ 0 ≤ c.1 ∧ ((c.2 - b.2 = 0 ∧ j + 1 = l.length) ∨ c.2 - b.2 = 1 ∨ c.2 - b.2 = -1) ∧ (j = 0 ∨ ((c.2 - b.2 = 0 ∧ j + 1 = l.length) ∧ c.1 - b.1 ≥ 0) ∨ (¬ (c.2 - b.2 = 0 ∧ j + 1 = l.length) ∧ c.1 - b.1 ≥ 2419199))) →
    k ((RV l, (0 : Int), (0 : Int), (), RV l, (l.length : Int), ((j + 1 : Nat) : Int), ()), (c.1, c.2, ()), ()) := fun hg => by
   obtain ⟨q1, q2, q3, q4⟩ := hg
   rw [if_neg (by omega), if_neg (by omega), if_neg (by omega), if_neg] at hok
   ·refine hk _ ⟨j + 1, c, by omega, rfl, hok, fun _ => q2, hc1, hc2⟩ ?_
    show l.length - ((j + 1 : Nat) : Int).toNat < l.length - ((j : Nat) : Int).toNat
    omega
   ·rintro ⟨r1, r2⟩
    rcases q4 with q4 | q4 | q4
    ·omega
    ·rw [if_pos q4.1] at r2; omega
    ·rw [if_neg q4.1] at r2; omega
  clear hok hk h hd hre hre' hre''
  rw [e1, e2]
  have ew : 0 < j → 0 ≤ c.1 → w64 (c.1 - b.1) = c.1 - b.1 := fun h1 h2 => by
   have := hb0 h1
   unfold i64r at *
   exact w64_in (by omega) (by omega)
  refine ssub c.2 b.2 hc2 hb2 (fun hf => ?_) fun hf => ?_
  ·generalize c.2 - b.2 = s at *
   simp only [if_true, beq_iff_eq, Bool.not_eq_true', beq_eq_false_iff_ne, ne_eq, bne_iff_ne, not_true, if_false, Bool.not_true, Bool.false_eq_true]
   repeat' split
   all_goals first
    |(refine c8 ?_; omega)
    |(refine c9 ?_; omega)
    |(refine c6 ?_; omega)
    |(refine c7 ?_; omega)
    |(refine good ?_; omega)
    |(refine c7 ?_; rw [ew (by omega) (by omega)] at *; omega)
    |(refine good ?_; rw [ew (by omega) (by omega)] at *; omega)
  ·simp only [if_true, if_false, Bool.not_false, Bool.false_eq_true]
   unfold i64r at hf
   repeat' split
   all_goals first
    |(refine c8 ?_; omega)
    |(refine c9 ?_; omega)
    |(refine c6 ?_; omega)
end Go.Proofs.YtenaflbcnkalbaaGreatDoor
end
section
set_option linter.unusedVariables false
set_option linter.unusedSimpArgs false
namespace Go.Proofs.YtenaflbcnkalbaaGreatDoor
open Go Go.Proofs.YtenaflbcnkalbaaGreatDoor.Eng Go.Proofs.YtenaflbcnkalbaaGreatDoor.Pl
set_option maxRecDepth 100000
set_option maxHeartbeats 2000000
theorem kEnd (n : Int) {K} (h : K (endD n)) : Xday_End n K := by
 unfold Xday_End Yday_End
 refine sday n ?_
 unfold endD at h
 by_cases e : -719162 ≤ n ∧ n ≤ 2932896
 ·rw [if_pos e]
  rw [decide_eq_true e, Bool.true_and] at h
  refine slast _ _ ?_
  obtain ⟨⟨v1, v2, v3, v4, _⟩, _⟩ := num_date e.1 e.2
  rw [if_pos rfl, if_pos ⟨v1, v2, v3, v4⟩]; exact h
 ·rw [if_neg e]
  rw [decide_eq_false e, Bool.false_and] at h
  refine slast _ _ ?_
  rw [if_neg (by simp)]; exact h
theorem kWrong (k : Nat) (l : LR) (ahead : Int) {K} (h : K (wrongL k l ahead)) : Xleap_wrong (k : Int) (l.1, l.2.1, l.2.2, ()) ahead K := by
 unfold Xleap_wrong Yleap_wrong
 unfold wrongL at h
 dsimp only
 simp only [decide_eq_true_eq, bne_iff_ne, ne_eq]
 by_cases h1 : 200 ≤ k
 ·rw [if_pos h1] at h; rw [if_pos (by omega)]; exact h
 rw [if_neg h1] at h; rw [if_neg (by omega)]
 have rest : ¬ (l.1 < 730 ∨ 2932896 ≤ l.1) → Xday_End l.1 (fun r => if (!r) = true then K 5 else if ¬ l.2.1 = 1 then (if ¬ l.2.1 = -1 then K 6 else if l.1 ≤ ahead then K 4 else K 0) else if l.1 ≤ ahead then K 4 else K 0) := fun h2 => by
  rw [if_neg h2] at h
  refine kEnd _ ?_
  cases he : endD l.1
  ·rw [if_pos he] at h; exact h
  ·rw [if_neg (by simp [he])] at h
   rw [if_neg (by simp)]
   by_cases s1 : l.2.1 = 1
   ·rw [if_neg (by omega)] at h; rw [if_neg (by omega)]
    by_cases h4 : l.1 ≤ ahead
    ·rw [if_pos h4] at h; rw [if_pos h4]; exact h
    ·rw [if_neg h4] at h; rw [if_neg h4]; exact h
   ·rw [if_pos s1]
    by_cases s2 : l.2.1 = -1
    ·rw [if_neg (by omega)] at h; rw [if_neg (by omega)]
     by_cases h4 : l.1 ≤ ahead
     ·rw [if_pos h4] at h; rw [if_pos h4]; exact h
     ·rw [if_neg h4] at h; rw [if_neg h4]; exact h
    ·rw [if_pos ⟨s1, s2⟩] at h; rw [if_pos s2]; exact h
 by_cases h2 : l.1 < 730
 ·rw [if_pos (.inl h2)] at h
  rw [if_pos h2, if_pos h2]; exact h
 rw [if_neg h2]
 by_cases h3 : l.1 ≥ 2932896
 ·rw [if_pos (.inr h3)] at h
  rw [if_pos h3]; exact h
 rw [if_neg h3]
 exact rest (by omega)
theorem kCheck (t : Tb) (hl : t.ls.length ≤ 1000000) {K} (h : K ((checkT t).1 : Int) (checkT t).2) : Xleap_Check (TLV t.ls, t.has, t.ex, ()) K := by
 unfold Xleap_Check Yleap_Check
 rw [TLV_len]
 unfold checkT at h
 refine lp_ind (fun x => t.ls.length - x.1.2.2.2.2.2.2.1.toNat) (fun x => ∃ (j : Nat) (a : Int), j ≤ t.ls.length ∧ 729 ≤ a ∧ a ≤ 2932896 ∧ checkG j a (t.ls.drop j) = checkG 0 729 t.ls ∧
  x = (((), 0, 0, a, TLV t.ls, (t.ls.length : Int), (j : Int), ()), (TLV t.ls, t.has, t.ex, ()), ())) ?_ ⟨0, 729, by omega, by omega, by omega, rfl, rfl⟩
 rintro x ⟨j, a, hj, ha, ha', hc, rfl⟩ k hk
 unfold Lleap_Check_0
 dsimp only
 rw [TLV_len, Int.toNat_natCast]
 by_cases e : j < t.ls.length
 ·rw [if_pos (decide_eq_true (by omega)), if_pos (by omega)]
  refine asL1 e (asL2 e (asL3 e ?_))
  refine kWrong j (t.ls[j]) a ?_
  rw [List.drop_eq_getElem_cons e, checkG] at hc
  by_cases hw : wrongL j t.ls[j] a = 0
  ·rw [if_neg (by simp [hw])]
   rw [if_neg (by simp [hw])] at hc
   obtain ⟨_, q1, q2, _⟩ := wrongL_0 hw
   have w1 : w64 ((j : Int) + 1) = ((j + 1 : Nat) : Int) := by rw [w64_in (by omega) (by omega)]; omega
   rw [w1]
   exact hk _ ⟨j + 1, _, e, by omega, by omega, hc, rfl⟩ (by show t.ls.length - Int.toNat ((j + 1 : Nat) : Int) < t.ls.length - Int.toNat (j : Int); omega)
  ·rw [if_pos (by simpa using hw)]
   rw [if_pos hw] at hc
   rw [← hc, if_pos hw] at h
   exact h
 ·rw [if_neg (dneg (by omega))]
  have : j = t.ls.length := by omega
  subst this
  rw [List.drop_length, checkG] at hc
  rw [← hc, if_neg (by simp)] at h
  unfold expB at h
  simp only [lt]
  have w1 : w64 (w64 (a + 1) * 86400) = (a + 1) * 86400 := by rw [w64_in (n := a + 1) (by omega) (by omega), w64_in (by omega) (by omega)]
  rw [w1]
  cases hh : t.has
  ·rw [hh] at h
   rw [if_neg (by simp)]
   rw [if_neg (by simp)] at h
   by_cases h1 : t.ex < 0
   ·rw [if_pos (decide_eq_true h1)]
    rw [if_pos (by omega)] at h; exact h
   rw [if_neg (dneg h1)]
   by_cases h2 : t.ex > 0
   ·rw [if_pos (decide_eq_true h2)]
    rw [if_pos (by omega)] at h; exact h
   rw [if_neg (dneg h2)]
   rw [if_neg (by omega)] at h; exact h
  ·rw [hh, if_pos rfl] at h
   rw [if_pos rfl]
   generalize (if 63072000 > (a + 1) * 86400 then 63072000 else (a + 1) * 86400) = M at *
   by_cases h1 : t.ex < M
   ·rw [if_pos (decide_eq_true h1)]
    rw [if_pos (.inl h1)] at h; exact h
   rw [if_neg (dneg h1)]
   by_cases h2 : t.ex > 253402300799
   ·rw [if_pos (decide_eq_true h2)]
    rw [if_pos (.inr h2)] at h; exact h
   rw [if_neg (dneg h2)]
   rw [if_neg (by omega)] at h; exact h
theorem kRightT (t : Tb) (hl : t.ls.length ≤ 1000000) {K} (h : K (rightT t)) : Xleap_Right (TLV t.ls, t.has, t.ex, ()) K := by
 unfold Xleap_Right Yleap_Right
 exact kCheck t hl h
end Go.Proofs.YtenaflbcnkalbaaGreatDoor
end
section
set_option linter.unusedVariables false
set_option linter.unusedSimpArgs false
namespace Go.Proofs.YtenaflbcnkalbaaGreatDoor
open Go Go.Proofs.YtenaflbcnkalbaaGreatDoor.Eng Go.Proofs.YtenaflbcnkalbaaGreatDoor.Pl
set_option maxRecDepth 100000
set_option maxHeartbeats 2000000
structure ZG (z : Zn) : Prop where
 ri : recI z.lp
 ti : recI z.tr
 v : i64r z.v
 tl : z.ty.length ≤ 9223372036854775807
theorem ZG.zi {z : Zn} (h : ZG z) (hf : z.ty.length ≤ 100 ∧ z.tr.length ≤ 300 ∧ z.lp.length ≤ 300 ∧ z.ft.length ≤ 200 ∧ (∀ t ∈ z.ty, t.2.2.length ≤ 100)) : ZI z :=
 ⟨hf.1, hf.2.1, hf.2.2.1, hf.2.2.2.1, hf.2.2.2.2, h.ri, h.ti, h.v⟩
end Go.Proofs.YtenaflbcnkalbaaGreatDoor
end
section
set_option linter.unusedVariables false
set_option linter.unusedSimpArgs false
namespace Go.Proofs.YtenaflbcnkalbaaGreatDoor
open Go Go.Proofs.YtenaflbcnkalbaaGreatDoor.Eng Go.Proofs.YtenaflbcnkalbaaGreatDoor.Pl
set_option maxRecDepth 100000
set_option maxHeartbeats 2000000
def prevR (b : Rec) (l : List Rec) (i : Nat) : Rec := if i = 0 then b else l.getD (i - 1) (0, 0)
theorem recOk_at : ∀ (l : List Rec) (k : Nat) (b : Rec), recOk k b l = true → ∀ (i : Nat) (h : i < l.length),
  ((l[i]).2 - (prevR b l i).2 = 0 ∧ i + 1 = l.length) ∨ (((l[i]).2 - (prevR b l i).2 = 1 ∨ (l[i]).2 - (prevR b l i).2 = -1) ∧ (k + i = 0 ∨ (l[i]).1 - (prevR b l i).1 ≥ 2419199))
 | [], k, b, h, i, hi => by simp at hi
 | c :: r, k, b, h, i, hi => by
  obtain ⟨⟨h1, h2, h3, h4⟩, h5⟩ := (recOk_cons k b c r).1 h
  cases i with
  | zero =>
   simp only [prevR, if_true, List.getElem_cons_zero, List.length_cons]
   by_cases e : c.2 - b.2 = 0 ∧ r = []
   ·exact .inl ⟨e.1, by rw [e.2]; rfl⟩
   ·refine .inr ⟨?_, ?_⟩
    ·rcases h3 with h3 | h3
     ·exact absurd h3 e
     ·exact h3
    ·rcases h4 with h4 | h4 | h4
     ·exact .inl (by omega)
     ·exact absurd h4.1 e
     ·exact .inr h4.2
  | succ i =>
   have ih := recOk_at r (k + 1) c h5 i (by simpa using hi)
   have hp : prevR b (c :: r) (i + 1) = prevR c r i := by
    unfold prevR
    rw [if_neg (by omega)]
    cases i with
    | zero => rfl
    | succ i => rfl
   rw [hp]
   simp only [List.getElem_cons_succ, List.length_cons]
   rcases ih with ih | ih
   ·exact .inl ⟨ih.1, by omega⟩
   ·exact .inr ⟨ih.1, ih.2.imp (fun h => by omega) id⟩
/-- The sum behind so many records. -/
def sm (l : List Rec) (m : Nat) : Int := if m = 0 then 0 else (l.getD (m - 1) (0, 0)).2
theorem leaps_at {l : List Rec} (h : recRight l = true) (i : Nat) (hi : i < (leapsR l).length) :
  (sm (leapsR l) (i + 1) - sm (leapsR l) i = 1 ∨ sm (leapsR l) (i + 1) - sm (leapsR l) i = -1) ∧ 0 ≤ ((leapsR l)[i]).1 ∧ (∀ j (hj : j < (leapsR l).length), i < j → ((leapsR l)[i]).1 < ((leapsR l)[j]).1) := by
 have hl := leapsR_len l
 have hil : i < l.length := by rw [hl] at hi; split at hi <;> omega
 have get : ∀ j (hj : j < (leapsR l).length), (leapsR l)[j] = l[j]'(by rw [hl] at hj; split at hj <;> omega) := fun j hj => by
  unfold leapsR
  by_cases e : lastExp l = true
  ·simp only [e, if_true, List.getElem_take]
  ·simp only [e, if_false]; rfl
 have getd : ∀ j, j < (leapsR l).length → (leapsR l).getD j (0, 0) = l.getD j (0, 0) := fun j hj => by
  rw [getD_at _ _ _ hj, get j hj, getD_at l]
 have key : ∀ j (hj : j < (leapsR l).length), ((l[j]'(by rw [hl] at hj; split at hj <;> omega)).2 - (prevR (-2419199, 0) l j).2 = 1 ∨ (l[j]'(by rw [hl] at hj; split at hj <;> omega)).2 - (prevR (-2419199, 0) l j).2 = -1) ∧ (j = 0 ∨ (l[j]'(by rw [hl] at hj; split at hj <;> omega)).1 - (prevR (-2419199, 0) l j).1 ≥ 2419199) := fun j hj => by
  have hjl : j < l.length := by rw [hl] at hj; split at hj <;> omega
  rcases recOk_at l 0 (-2419199, 0) h j hjl with ⟨e1, e2⟩ | ⟨e1, e2⟩
  ·exfalso
   have : lastExp l = true := by
    unfold lastExp
    unfold prevR at e1
    by_cases j0 : j = 0
    ·rw [if_pos j0] at e1
     subst j0
     have g := getD_at l 0 (0, 0) hjl
     rw [g]
     simp only [Bool.or_eq_true, Bool.and_eq_true, decide_eq_true_eq, beq_iff_eq]
     exact .inl ⟨by omega, by simpa using e1⟩
    ·rw [if_neg j0] at e1
     have g := getD_at l (l.length - 1) (0, 0) (by omega)
     have ej : l.length - 1 = j := by omega
     have ej2 : l.length - 2 = j - 1 := by omega
     simp only [Bool.or_eq_true, Bool.and_eq_true, decide_eq_true_eq, beq_iff_eq]
     refine .inr ⟨by omega, ?_⟩
     rw [ej, ej2, getD_at l j _ hjl]; omega
   rw [hl, if_pos this] at hj
   omega
  ·exact ⟨e1, e2.imp (fun h => by omega) id⟩
 refine ⟨?_, ?_, ?_⟩
 ·have := (key i hi).1
  unfold sm
  rw [if_neg (by omega), Nat.add_sub_cancel, getd i hi, getD_at l i _ hil]
  unfold prevR at this
  by_cases i0 : i = 0
  ·rw [if_pos i0] at this ⊢; exact this
  ·rw [if_neg i0] at this ⊢
   rw [getd (i - 1) (by omega)]; exact this
 ·rw [get i hi]; exact ((recOk_all l 0 _ h).1 i hil).2
 ·intro j hj hij
  have hjl : j < l.length := by rw [hl] at hj; split at hj <;> omega
  have := (key j hj).2
  have hs := srt_rec h i (j - 1) hil (by omega) (by omega)
  unfold prevR at this
  rw [if_neg (show ¬ j = 0 by omega), getD_at l (j - 1) _ (by omega)] at this
  rw [get i hi, get j hj]
  rcases this with h0 | h0
  ·omega
  ·omega
theorem sm_bd {l : List Rec} (h : recRight l = true) : ∀ m, m ≤ (leapsR l).length → -(m : Int) ≤ sm (leapsR l) m ∧ sm (leapsR l) m ≤ m
 | 0, _ => by simp [sm]
 | m + 1, hm => by
  have ih := sm_bd h m (by omega)
  have := (leaps_at h m (by omega)).1
  omega
theorem sumR_sm (l : List Rec) (a : Int) : sumR l a = sm (leapsR l) (Pl.fl (fun c : Rec => decide (c.1 > a)) (leapsR l)) := by
 have hle := fl_le (fun c : Rec => decide (c.1 > a)) (leapsR l)
 unfold sumR sm
 generalize Pl.fl (fun c : Rec => decide (c.1 > a)) (leapsR l) = m at *
 by_cases m0 : m = 0
 ·subst m0; rfl
 ·rw [if_neg m0]
  have : ((leapsR l).take m).getLast? = some ((leapsR l)[m - 1]'(by omega)) := by
   rw [List.getLast?_eq_getElem?, List.length_take, Nat.min_eq_left hle, List.getElem?_take, if_pos (by omega), List.getElem?_eq_getElem (by omega)]
  rw [this, getD_at _ _ _ (by omega)]
theorem sum_bd {z : Zn} (h : ZR z) (a : Int) : -300 ≤ sumR z.lp a ∧ sumR z.lp a ≤ 300 := by
 have hr := h.all.2.1
 have hl := h.lp
 rw [sumR_sm]
 have hle := fl_le (fun c : Rec => decide (c.1 > a)) (leapsR z.lp)
 have h2 := leapsR_len z.lp
 have := sm_bd hr _ hle
 split at h2 <;> omega
end Go.Proofs.YtenaflbcnkalbaaGreatDoor
end
section
set_option linter.unusedVariables false
set_option linter.unusedSimpArgs false
namespace Go.Proofs.YtenaflbcnkalbaaGreatDoor
open Go Go.Proofs.YtenaflbcnkalbaaGreatDoor.Eng Go.Proofs.YtenaflbcnkalbaaGreatDoor.Pl
set_option maxRecDepth 100000
set_option maxHeartbeats 4000000
abbrev tupB (t : Tb) : List V × Bool × Int × Unit := (TLV t.ls, t.has, t.ex, ())
theorem sInst (z : Zn) (h : ZR z) (l : LR) (hd : 0 ≤ l.1 ∧ l.1 ≤ 3000000) {K : Int → Prop} (hk : K (instR z l)) : Xright_Instant (tupZ z) (l.1, l.2.1, l.2.2, ()) K := by
 unfold Xright_Instant Yright_Instant
 have w1 : w64 (w64 (l.1 + 1) * 86400) = midL l := by
  unfold midL; rw [w64_in (n := l.1 + 1) (by omega) (by omega), w64_in (by omega) (by omega)]
 have hm : 0 ≤ midL l ∧ midL l ≤ 300000000000 := by unfold midL; omega
 simp only [lt, w1]
 unfold instR at hk
 cases hr : l.2.2
 ·rw [if_pos (by rfl)]
  rw [if_neg (by simp [hr])] at hk; exact hk
 ·rw [if_neg (by simp)]
  rw [if_pos hr] at hk
  rw [w64_in (n := midL l - 1) (by omega) (by omega)]
  refine zLookup z h _ ?_
  have := right_off h.right (midL l - 1)
  show K (w64 (midL l - (lookZ z (midL l - 1)).1))
  rw [w64_in (by omega) (by omega)]; exact hk
theorem rec_snoc (l : List Rec) (a b : Int) : RV l ++ [V.agg [V.c (.int .i64 a), V.c (.int .i64 b)]] = RV (l ++ [(a, b)]) := by simp [RV, eRec]
theorem min0 (n : Int) : (if 0 < n then 0 else n) = min n 0 := by split <;> omega
theorem sRecords (z : Zn) (hz : ZR z) (t : Tb) (ht : rightT t = true) {K : Int → List V → Bool → Bool → Prop} (h : ∀ o f, K (recordsR z t).2 (RV (recordsR z t).1) o f) : Xright_Records (tupZ z) (tupB t) K := by
 unfold Xright_Records Yright_Records
 have hst := right_steps ht
 have hlen := right_len ht
 have hoff := right_off hz.right
 have inst : ∀ i (hi : i < t.ls.length), 0 < instR z t.ls[i] ∧ instR z t.ls[i] < 300000000000 := fun i hi => inst_pos hoff ht _ (List.getElem_mem hi)
 have sb := sumT_bd hst
 have st := stepT_of hst
 have fin : ∀ l, l = recAll z t → Xrecord_Check (RV l) (fun r11 r12 => if (r12 != 0) = true then K r12 [] true true else K 0 (RV l) true false) := fun l hl => by
  have hi : recI l := by
   intro c hc
   obtain ⟨i, hi, rfl⟩ := List.getElem_of_mem hc
   have hi2 : i < t.ls.length + if t.has = true then 1 else 0 := by rw [← recAll_len z t, ← hl]; exact hi
   have eg : l[i] = (recAll z t).getD i (0, 0) := by rw [← hl, List.getD, List.getElem?_eq_getElem hi]; rfl
   rw [eg]
   by_cases e : i < t.ls.length
   ·rw [recAll_lt z t i e]
    have := inst i e
    have := sb i
    have := sb (i + 1)
    have := st i e
    unfold i64r
    exact ⟨⟨by dsimp only; omega, by dsimp only; omega⟩, by dsimp only; omega, by dsimp only; omega⟩
   ·have hh : t.has = true := by
     cases hh : t.has
     ·rw [hh] at hi2; simp at hi2; omega
     ·rfl
    rw [hh, if_pos rfl] at hi2
    have ei : i = t.ls.length := by omega
    rw [ei, recAll_end z t hh]
    have := (right_ex ht).2 hh
    have := sb t.ls.length
    unfold i64r
    exact ⟨⟨by dsimp only; omega, by dsimp only; omega⟩, by dsimp only; omega, by dsimp only; omega⟩
  refine sRecCheck l hi (by rw [hl, recAll_len]; split <;> omega) fun n => ?_
  unfold recordsR at h
  rw [hl]
  by_cases e : recE (recAll z t) = 0
  ·rw [if_pos e] at h
   rw [e, if_neg (by simp)]; exact h _ _
  ·rw [if_neg e] at h
   rw [if_pos (by simpa using e)]; exact h _ _
 have rl : ∀ j, j ≤ t.ls.length → (recG z 0 (t.ls.take j)).length = j := fun j hj => by rw [recG_len]; simp; omega
 refine lp_at (fun j => (((), (), (), (0 : Int), (), sumT t.ls j, TLV t.ls, (t.ls.length : Int), (j : Int), ()), tupZ z, tupB t, RV (recG z 0 (t.ls.take j)), ())) t.ls.length (by rw [TLV_len]; rfl) fun j hj k hk => ?_
 unfold Lright_Records_0
 dsimp only
 have lj := rl j hj
 rw [TLV_len, RV_len, lj, Int.toNat_natCast]
 have rm : roomOk (j + 1) 16 = true := room16 _ (by omega)
 by_cases e : j < t.ls.length
 ·rw [if_pos (decide_eq_true (by omega)), if_pos (by omega)]
  refine asL1 e (asL2 e (asL3 e ?_))
  have hd := right_rng ht _ (List.getElem_mem e)
  refine sInst z hz t.ls[j] (by omega) ?_
  have := inst j e
  have b1 := sb j
  have b2 := sb (j + 1)
  have s1 := sumT_succ e
  have s2 := st j e
  have s3 : Pl.stepT t.ls j = (t.ls[j]).2.1 := by unfold Pl.stepT; rw [List.getD, List.getElem?_eq_getElem e]; rfl
  have w1 : w64 ((j : Int) + 1) = ((j + 1 : Nat) : Int) := by rw [w64_in (by omega) (by omega)]; omega
  have w2 : w64 (sumT t.ls j + (t.ls[j]).2.1) = sumT t.ls (j + 1) := by rw [w64_in (by omega) (by omega)]; omega
  have w3 : w64 (w64 (instR z t.ls[j] + sumT t.ls j) + (if 0 < (t.ls[j]).2.1 then 0 else (t.ls[j]).2.1)) = instR z t.ls[j] + sumT t.ls j + min (t.ls[j]).2.1 0 := by
   rw [min0, w64_in (n := instR z t.ls[j] + sumT t.ls j) (by omega) (by omega), w64_in (by omega) (by omega)]
  simp only [lt, w1, w2, w3, List.length_singleton]
  rw [if_pos rm, rec_snoc]
  have ng : recG z 0 (t.ls.take (j + 1)) = recG z 0 (t.ls.take j) ++ [(instR z t.ls[j] + sumT t.ls j + min (t.ls[j]).2.1 0, sumT t.ls (j + 1))] := by
   rw [← recG_take, ← recG_take, List.take_succ_eq_append_getElem (by rw [recG_len]; exact e), recG_get z t.ls 0 j e (by rw [recG_len]; exact e), s3]
   simp
  rw [← ng]
  exact hk e
 ·have : j = t.ls.length := by omega
  subst this
  rw [if_neg (dneg (by omega))]
  rw [List.take_length]
  by_cases hh : t.has = true
  rotate_left
  ·rw [if_neg hh]
   exact fin _ (by unfold recAll; rw [if_neg hh]; simp)
  ·have x := (right_ex ht).2 hh
   have b1 := sb t.ls.length
   have w4 : w64 (t.ex + sumT t.ls t.ls.length) = t.ex + sumT t.ls t.ls.length := w64_in (by omega) (by omega)
   rw [if_pos hh]
   simp only [lt, w4, List.length_singleton]
   rw [if_pos rm, rec_snoc]
   refine fin _ ?_
   unfold recAll sumT
   rw [hh, if_pos rfl, List.take_length]
theorem sShift (z : Zn) (hz : ZR z) (t : Tb) (ht : rightT t = true) (p : Int) (hp : i64r p) {K : Int → Bool → Prop} (h : K (shiftR z t.ls p).1 (shiftR z t.ls p).2) : Xright_Shift (tupZ z) (tupB t) p K := by
 unfold Xright_Shift Yright_Shift
 have hst := right_steps ht
 have hlen := right_len ht
 refine lp_at (fun j => ((p, (), (0 : Int), false, shiftS z (t.ls.take j) p, TLV t.ls, (t.ls.length : Int), (j : Int), ()), tupZ z, ())) t.ls.length (by rw [TLV_len]; rfl) fun j hj k hk => ?_
 unfold Lright_Shift_0
 dsimp only
 rw [TLV_len, Int.toNat_natCast]
 have bd := shiftS_bd z p (t.ls.take j) fun l hl => hst l (List.mem_of_mem_take hl)
 have lt2 : (t.ls.take j).length ≤ t.ls.length := by simp; omega
 by_cases e : j < t.ls.length
 ·rw [if_pos (decide_eq_true (by omega)), if_pos (by omega)]
  refine asL1 e (asL2 e (asL3 e ?_))
  have hd := right_rng ht _ (List.getElem_mem e)
  refine sInst z hz t.ls[j] (by omega) ?_
  have w1 : w64 ((j : Int) + 1) = ((j + 1 : Nat) : Int) := by rw [w64_in (by omega) (by omega)]; omega
  have := hk e
  rw [List.take_succ_eq_append_getElem e, shift_app, shiftS_cons] at this
  have s2 := hst _ (List.getElem_mem e)
  rw [w1]
  by_cases c : instR z t.ls[j] ≤ p
  ·rw [if_pos (decide_eq_true c), w64_in (by omega) (by omega)]
   rw [if_pos c] at this
   simpa [shiftS] using this
  ·rw [if_neg (dneg c)]
   rw [if_neg c] at this
   simpa [shiftS] using this
 ·have : j = t.ls.length := by omega
  subst this
  rw [if_neg (dneg (by omega))]
  rw [List.take_length] at bd ⊢
  refine sadd _ _ hp ⟨by omega, by omega⟩ ?_
  unfold shiftR at h
  by_cases q : inI (p + shiftS z t.ls p)
  ·rw [if_pos q] at h
   rw [if_pos (show -9223372036854775808 ≤ p + shiftS z t.ls p ∧ p + shiftS z t.ls p ≤ 9223372036854775807 from q)]; exact h
  ·rw [if_neg q] at h
   rw [if_neg (show ¬ (-9223372036854775808 ≤ p + shiftS z t.ls p ∧ p + shiftS z t.ls p ≤ 9223372036854775807) from q)]; exact h
theorem RV_set (l : List Rec) (i : Nat) (h : i < l.length) (x : Int) : List.set (RV l) i (setE (List.getD (RV l) i V.bad) 0 [V.c (.int .i64 x)]) = RV (l.set i (x, (l[i]).2)) := by
 have : List.getD (RV l) i V.bad = eRec l[i] := by simp [RV, List.getD, h]
 rw [this]
 show List.set (RV l) i (eRec (x, (l[i]).2)) = _
 simp [RV, List.map_set]
/-- Changes, the first ones moved. -/
def mixR (f : Int → Int) (l : List Rec) (j : Nat) : List Rec := (l.take j).map (fun c => (f c.1, c.2)) ++ l.drop j
theorem mix_len (f : Int → Int) (l : List Rec) (j : Nat) (h : j ≤ l.length) : (mixR f l j).length = l.length := by simp [mixR]; omega
theorem mix_get (f : Int → Int) (l : List Rec) (j : Nat) (h : j < l.length) (h' : j < (mixR f l j).length) : (mixR f l j)[j] = l[j] := by
 have : (mixR f l j)[j]? = l[j]? := by
  unfold mixR
  rw [List.getElem?_append_right (by simp; omega)]
  simp [Nat.min_eq_left (Nat.le_of_lt h)]
 rw [List.getElem?_eq_getElem h', List.getElem?_eq_getElem h] at this
 exact Option.some.inj this
theorem mix_succ (f : Int → Int) (l : List Rec) (j : Nat) (h : j < l.length) : (mixR f l j).set j (f (l[j]).1, (l[j]).2) = mixR f l (j + 1) := by
 unfold mixR
 rw [List.drop_eq_getElem_cons h]
 have hl : ((l.take j).map (fun c => (f c.1, c.2))).length = j := by simp; omega
 have := set_mid ((l.take j).map (fun c => (f c.1, c.2))) (f (l[j]).1, (l[j]).2) l[j] (l.drop (j + 1))
 rw [hl] at this
 rw [this, List.take_succ_eq_append_getElem h, List.map_append]
 simp
theorem mix_end (f : Int → Int) (l : List Rec) : mixR f l l.length = l.map fun c => (f c.1, c.2) := by simp [mixR]
theorem sSubR (z : Zn) (hz : ZR z) (a : Int) (ha : i64r a) {K : Int → Bool → Prop} (h : K (subR z a).1 (subR z a).2) : Xrecord_Sum (RV z.lp) a (fun r => Xnum_Sub a r K) := by
 have hs := sum_bd hz a
 refine sSum z.lp hz.sl (by have := hz.lp; omega) a ?_
 unfold subR at h
 refine ssub a _ ha ⟨by omega, by omega⟩ (fun q => ?_) fun q => ?_
 ·rw [if_pos (show inI (a - sumR z.lp a) from q)] at h; exact h
 ·rw [if_neg (show ¬ inI (a - sumR z.lp a) from q)] at h; exact h
theorem sMoved (z : Zn) (hz : ZR z) (t : Tb) (ht : rightT t = true) {K : _ → _ → _ → _ → _ → _ → _ → _ → _ → _ → _ → _ → _ → _ → _ → _ → _ → _ → _ → _ → _ → _ → _ → _ → _ → _ → _ → Prop}
  (hok : (movedR z (shiftR z t.ls)).2 = 0 → ∀ f g i, K ((), (), (), S (movedR z (shiftR z t.ls)).1.ft, (movedR z (shiftR z t.ls)).1.v, ()) 0 (S z.ft) z.v t.has t.ex (TV (movedR z (shiftR z t.ls)).1.ty) true f (RV (movedR z (shiftR z t.ls)).1.tr) true g (RV z.lp) true i (TV z.ty) false true (RV z.tr) false true (RV z.lp) false true (TLV t.ls) false true)
  (hno : (movedR z (shiftR z t.ls)).2 ≠ 0 → K ((), (), (), ByteArray.mk #[], 0, ()) (movedR z (shiftR z t.ls)).2 (S z.ft) z.v t.has t.ex [] true true [] true true [] true true (TV z.ty) false true (RV z.tr) false true (RV z.lp) false true (TLV t.ls) false true) :
  Xright_moved (tupZ z) (TV z.ty) (RV z.tr) (RV z.lp) (S z.ft) z.v (TLV t.ls) t.has t.ex K := by
 unfold Xright_moved Yright_moved
 refine zCopy z hz.toZI fun f g i hg => ?_
 have hg' : 0 < z.tr.length → g = false := fun h => by
  cases g
  ·rfl
  ·rw [hg rfl] at h; simp at h
 have hti := hz.ti
 have htr := hz.tr
 unfold movedR at hok hno
 dsimp only
 rw [RV_len]
 refine lp_ind (fun x => z.tr.length - x.1.2.2.2.2.2.2.1.toNat) (fun x => ∃ j : Nat, j ≤ z.tr.length ∧ (∀ c ∈ z.tr.take j, (shiftR z t.ls c.1).2 = true) ∧
  x = ((((), (), (), ()), (), (), (0 : Int), (), (z.tr.length : Int), (j : Int), ()), tupZ z, tupB t, ((), (), (), S z.ft, z.v, ()), ((), (), (), ByteArray.mk #[], 0, ()), (TV z.ty, true, f), (RV (mixR (fun a => (shiftR z t.ls a).1) z.tr j), true, g), (RV z.lp, true, i), ())) ?_ ⟨0, by omega, by simp, by simp [mixR]; rfl⟩
 rintro x ⟨j, hj, hall, rfl⟩ k hk
 unfold Lright_moved_0
 dsimp only
 have lm := mix_len (fun a => (shiftR z t.ls a).1) z.tr j hj
 rw [RV_len, lm, Int.toNat_natCast]
 by_cases e : j < z.tr.length
 ·rw [if_pos (decide_eq_true (by omega)), if_pos (by omega)]
  have hm : j < (mixR (fun a => (shiftR z t.ls a).1) z.tr j).length := by omega
  refine asR1 hm (asR2 hm ?_)
  rw [mix_get _ _ _ e hm]
  have hin : i64r (z.tr[j]).1 := (hti _ (List.getElem_mem e)).1
  unfold Xright_Compile_1 Yright_Compile_1
  refine sShift z hz t ht _ hin ?_
  cases hs : (shiftR z t.ls (z.tr[j]).1).2
  ·rw [if_pos (by rfl)]
   have hna : ¬ (z.tr.all (fun c => (shiftR z t.ls c.1).2) = true) := fun hh => by
    have := List.all_eq_true.1 hh _ (List.getElem_mem e)
    rw [hs] at this; cases this
   rw [if_neg hna] at hno
   exact hno (by decide)
  ·rw [if_neg (by simp), if_pos (by omega), if_pos (hg' (by omega)), if_pos (by omega), RV_set _ _ hm, mix_get _ _ _ e hm, mix_succ (fun a => (shiftR z t.ls a).1) z.tr j e]
   have w1 : w64 ((j : Int) + 1) = ((j + 1 : Nat) : Int) := by rw [w64_in (by omega) (by omega)]; omega
   rw [w1]
   refine hk _ ⟨j + 1, e, fun c hc => ?_, rfl⟩ (by show z.tr.length - Int.toNat ((j + 1 : Nat) : Int) < z.tr.length - Int.toNat (j : Int); omega)
   rw [List.take_succ_eq_append_getElem e, List.mem_append, List.mem_singleton] at hc
   rcases hc with hc | rfl
   ·exact hall c hc
   ·exact hs
 ·have : j = z.tr.length := by omega
  subst this
  rw [if_neg (dneg (by omega))]
  rw [List.take_length] at hall
  have ha : z.tr.all (fun c => (shiftR z t.ls c.1).2) = true := List.all_eq_true.2 hall
  rw [if_pos ha] at hok hno
  rw [mix_end]
  clear hk lm
  have lM : (z.tr.map fun c => ((shiftR z t.ls c.1).1, c.2)).length = z.tr.length := by simp
  generalize hM : (z.tr.map fun c => ((shiftR z t.ls c.1).1, c.2)) = M at *
  refine lp_ind (fun x => M.length - x.1.2.2.2.2.1.toNat) (fun x => ∃ j : Nat, j ≤ M.length ∧ (∀ q (h : q + 1 < M.length), q + 1 < j → (M[q]).1 < (M[q + 1]).1) ∧
   x = (((), (), (0 : Int), (M.length : Int), (j : Int), ()), tupZ z, tupB t, ((), (), (), S z.ft, z.v, ()), ((), (), (), ByteArray.mk #[], 0, ()), (TV z.ty, true, f), (RV M, true, g), (RV z.lp, true, i), ())) ?_ ⟨0, by omega, by omega, by rw [lM]; rfl⟩
  rintro x ⟨j, hj, hall2, rfl⟩ k hk
  unfold Lright_moved_1
  dsimp only
  rw [RV_len]
  have w1 : w64 ((j : Int) + 1) = ((j + 1 : Nat) : Int) := by rw [w64_in (by omega) (by omega)]; omega
  by_cases e : j < M.length
  ·rw [if_pos (decide_eq_true (by omega))]
   by_cases e0 : j = 0
   ·rw [if_neg (dneg (by omega)), w1]
    exact hk _ ⟨j + 1, e, fun q h1 h2 => by omega, rfl⟩ (by show M.length - Int.toNat ((j + 1 : Nat) : Int) < M.length - Int.toNat (j : Int); omega)
   ·have w2 : w64 ((j : Int) - 1) = ((j - 1 : Nat) : Int) := by rw [w64_in (by omega) (by omega)]; omega
    rw [if_pos (decide_eq_true (by omega)), if_pos (by omega), w2, Int.toNat_natCast, Int.toNat_natCast]
    refine asR1 e ?_
    have e1 : j - 1 < M.length := by omega
    rw [if_pos (by omega)]
    refine asR1 e1 ?_
    by_cases c : (M[j]).1 ≤ (M[j - 1]).1
    ·rw [if_pos (decide_eq_true c)]
     have hnr : ¬ (rising M = true) := fun hh => by
      have := rising_get M hh (j - 1) (by omega)
      simp only [show j - 1 + 1 = j by omega] at this; omega
     rw [if_neg hnr] at hno
     exact hno (by decide)
    ·rw [if_neg (dneg c), w1]
     refine hk _ ⟨j + 1, e, fun q h1 h2 => ?_, rfl⟩ (by show M.length - Int.toNat ((j + 1 : Nat) : Int) < M.length - Int.toNat (j : Int); omega)
     rcases Nat.lt_or_ge (q + 1) j with h3 | h3
     ·exact hall2 q h1 h3
     ·have : q = j - 1 := by omega
      subst this
      simp only [show j - 1 + 1 = j by omega]; omega
  ·rw [if_neg (dneg (by omega))]
   have hr : rising M = true := rising_of M fun q h => hall2 q h (by omega)
   rw [if_pos hr] at hok
   exact hok rfl f g i
theorem sMoved_1 (z : Zn) (hz : ZR z) {K : _ → _ → _ → _ → _ → _ → _ → _ → _ → _ → _ → _ → _ → _ → _ → _ → _ → _ → _ → _ → _ → _ → Prop}
  (hok : (movedR z (subR z)).2 = 0 → ∀ f g i, K ((), (), (), S (movedR z (subR z)).1.ft, (movedR z (subR z)).1.v, ()) 0 (S z.ft) z.v (TV (movedR z (subR z)).1.ty) true f (RV (movedR z (subR z)).1.tr) true g (RV z.lp) true i (TV z.ty) false true (RV z.tr) false true (RV z.lp) false true )
  (hno : (movedR z (subR z)).2 ≠ 0 → K ((), (), (), ByteArray.mk #[], 0, ()) (movedR z (subR z)).2 (S z.ft) z.v [] true true [] true true [] true true (TV z.ty) false true (RV z.tr) false true (RV z.lp) false true ) :
  Xright_moved_1 (tupZ z) (TV z.ty) (RV z.tr) (RV z.lp) (S z.ft) z.v K := by
 unfold Xright_moved_1 Yright_moved_1
 refine zCopy z hz.toZI fun f g i hg => ?_
 have hg' : 0 < z.tr.length → g = false := fun h => by
  cases g
  ·rfl
  ·rw [hg rfl] at h; simp at h
 have hti := hz.ti
 have htr := hz.tr
 unfold movedR at hok hno
 dsimp only
 rw [RV_len]
 refine lp_ind (fun x => z.tr.length - x.1.2.2.2.2.2.2.1.toNat) (fun x => ∃ j : Nat, j ≤ z.tr.length ∧ (∀ c ∈ z.tr.take j, (subR z c.1).2 = true) ∧
  x = ((((), (), ()), (), (), (0 : Int), (), (z.tr.length : Int), (j : Int), ()), tupZ z, ((), (), (), S z.ft, z.v, ()), ((), (), (), ByteArray.mk #[], 0, ()), (TV z.ty, true, f), (RV (mixR (fun a => (subR z a).1) z.tr j), true, g), (RV z.lp, true, i), ())) ?_ ⟨0, by omega, by simp, by simp [mixR]; rfl⟩
 rintro x ⟨j, hj, hall, rfl⟩ k hk
 unfold Lright_moved_1_0
 dsimp only
 have lm := mix_len (fun a => (subR z a).1) z.tr j hj
 rw [RV_len, lm, Int.toNat_natCast]
 by_cases e : j < z.tr.length
 ·rw [if_pos (decide_eq_true (by omega)), if_pos (by omega)]
  have hm : j < (mixR (fun a => (subR z a).1) z.tr j).length := by omega
  refine asR1 hm (asR2 hm ?_)
  rw [mix_get _ _ _ e hm]
  have hin : i64r (z.tr[j]).1 := (hti _ (List.getElem_mem e)).1
  unfold Xright_Strip_1 Yright_Strip_1
  have hss := sum_bd hz (z.tr[j]).1
  refine sSubR z hz (z.tr[j]).1 hin ?_
  cases hs : (subR z (z.tr[j]).1).2
  ·rw [if_pos (by rfl)]
   have hna : ¬ (z.tr.all (fun c => (subR z c.1).2) = true) := fun hh => by
    have := List.all_eq_true.1 hh _ (List.getElem_mem e)
    rw [hs] at this; cases this
   rw [if_neg hna] at hno
   exact hno (by decide)
  ·rw [if_neg (by simp), if_pos (by omega), if_pos (hg' (by omega)), if_pos (by omega), RV_set _ _ hm, mix_get _ _ _ e hm, mix_succ (fun a => (subR z a).1) z.tr j e]
   have w1 : w64 ((j : Int) + 1) = ((j + 1 : Nat) : Int) := by rw [w64_in (by omega) (by omega)]; omega
   rw [w1]
   refine hk _ ⟨j + 1, e, fun c hc => ?_, rfl⟩ (by show z.tr.length - Int.toNat ((j + 1 : Nat) : Int) < z.tr.length - Int.toNat (j : Int); omega)
   rw [List.take_succ_eq_append_getElem e, List.mem_append, List.mem_singleton] at hc
   rcases hc with hc | rfl
   ·exact hall c hc
   ·exact hs
 ·have : j = z.tr.length := by omega
  subst this
  rw [if_neg (dneg (by omega))]
  rw [List.take_length] at hall
  have ha : z.tr.all (fun c => (subR z c.1).2) = true := List.all_eq_true.2 hall
  rw [if_pos ha] at hok hno
  rw [mix_end]
  clear hk lm
  have lM : (z.tr.map fun c => ((subR z c.1).1, c.2)).length = z.tr.length := by simp
  generalize hM : (z.tr.map fun c => ((subR z c.1).1, c.2)) = M at *
  refine lp_ind (fun x => M.length - x.1.2.2.2.2.1.toNat) (fun x => ∃ j : Nat, j ≤ M.length ∧ (∀ q (h : q + 1 < M.length), q + 1 < j → (M[q]).1 < (M[q + 1]).1) ∧
   x = (((), (), (0 : Int), (M.length : Int), (j : Int), ()), tupZ z, ((), (), (), S z.ft, z.v, ()), ((), (), (), ByteArray.mk #[], 0, ()), (TV z.ty, true, f), (RV M, true, g), (RV z.lp, true, i), ())) ?_ ⟨0, by omega, by omega, by rw [lM]; rfl⟩
  rintro x ⟨j, hj, hall2, rfl⟩ k hk
  unfold Lright_moved_1_1
  dsimp only
  rw [RV_len]
  have w1 : w64 ((j : Int) + 1) = ((j + 1 : Nat) : Int) := by rw [w64_in (by omega) (by omega)]; omega
  by_cases e : j < M.length
  ·rw [if_pos (decide_eq_true (by omega))]
   by_cases e0 : j = 0
   ·rw [if_neg (dneg (by omega)), w1]
    exact hk _ ⟨j + 1, e, fun q h1 h2 => by omega, rfl⟩ (by show M.length - Int.toNat ((j + 1 : Nat) : Int) < M.length - Int.toNat (j : Int); omega)
   ·have w2 : w64 ((j : Int) - 1) = ((j - 1 : Nat) : Int) := by rw [w64_in (by omega) (by omega)]; omega
    rw [if_pos (decide_eq_true (by omega)), if_pos (by omega), w2, Int.toNat_natCast, Int.toNat_natCast]
    refine asR1 e ?_
    have e1 : j - 1 < M.length := by omega
    rw [if_pos (by omega)]
    refine asR1 e1 ?_
    by_cases c : (M[j]).1 ≤ (M[j - 1]).1
    ·rw [if_pos (decide_eq_true c)]
     have hnr : ¬ (rising M = true) := fun hh => by
      have := rising_get M hh (j - 1) (by omega)
      simp only [show j - 1 + 1 = j by omega] at this; omega
     rw [if_neg hnr] at hno
     exact hno (by decide)
    ·rw [if_neg (dneg c), w1]
     refine hk _ ⟨j + 1, e, fun q h1 h2 => ?_, rfl⟩ (by show M.length - Int.toNat ((j + 1 : Nat) : Int) < M.length - Int.toNat (j : Int); omega)
     rcases Nat.lt_or_ge (q + 1) j with h3 | h3
     ·exact hall2 q h1 h3
     ·have : q = j - 1 := by omega
      subst this
      simp only [show j - 1 + 1 = j by omega]; omega
  ·rw [if_neg (dneg (by omega))]
   have hr : rising M = true := rising_of M fun q h => hall2 q h (by omega)
   rw [if_pos hr] at hok
   exact hok rfl f g i
theorem sCompile (z : Zn) (hz : ZI z) (t : Tb) (hl : t.ls.length ≤ 1000) {K : _ → _ → _ → _ → _ → _ → _ → _ → _ → _ → _ → Prop}
  (h : ∀ a b c d e f, K ((), (), (), S (compileR z t).1.ft, (compileR z t).1.v, ()) (compileR z t).2 (TV (compileR z t).1.ty) a b (RV (compileR z t).1.tr) c d (RV (compileR z t).1.lp) e f) : Xright_Compile (tupZ z) (tupB t) K := by
 unfold Xright_Compile Yright_Compile Xright_plain Yright_plain
 dsimp only
 have hlp : ((((tupZ z).2.2.1.length : Nat) : Int) == 0) = true ↔ z.lp = [] := by
  show (((RV z.lp).length : Int) == 0) = true ↔ _
  rw [RV_len, beq_iff_eq, ← List.length_eq_zero_iff]; omega
 unfold compileR at h
 have bad : ¬ ((z.lp = [] ∧ zoneRight z = true) ∧ rightT t = true) → K ((), (), (), ByteArray.mk #[], 0, ()) 1 [] true true [] true true [] true true := fun hn => by
  rw [if_pos hn] at h; exact h _ _ _ _ _ _
 by_cases e0 : z.lp = []
 ·rw [if_pos (hlp.2 e0)]
  refine sRight z hz ?_
  cases hr : zoneRight z
  ·rw [if_pos (by rfl)]; exact bad (by simp [hr])
  rw [if_neg (by simp)]
  refine kRightT t (by omega) ?_
  cases ht : rightT t
  ·rw [if_pos (by rfl)]; exact bad (by simp [ht])
  rw [if_neg (by simp)]
  have hzr : ZR z := ⟨hz, hr⟩
  rw [if_neg (fun hh => hh ⟨⟨e0, hr⟩, ht⟩)] at h
  refine sRecords z hzr t ht fun o f => ?_
  by_cases e1 : (recordsR z t).2 = 0
  ·rw [if_neg (by simp [e1])]
   rw [if_neg (by simp [e1])] at h
   refine sMoved z hzr t ht (fun q f' g i => ?_) fun q => ?_
   ·rw [if_neg (by simp)]
    rw [if_neg (by simp [q])] at h
    cases hh : t.has
    ·rw [if_neg (by simp)]
     rw [hh, if_neg (by simp)] at h
     exact h _ _ _ _ _ _
    ·rw [if_pos rfl]
     rw [hh, if_pos rfl] at h
     exact h _ _ _ _ _ _
   ·rw [if_pos (by simpa using q)]
    rw [if_pos q] at h
    exact h _ _ _ _ _ _
  ·rw [if_pos (by simpa using e1)]
   rw [if_pos e1] at h
   exact h _ _ _ _ _ _
 ·rw [if_neg (fun hh => e0 (hlp.1 hh)), if_pos (by rfl)]
  exact bad (by simp [e0])
theorem sStrip (z : Zn) (hz : ZI z) {K : _ → _ → _ → _ → _ → _ → _ → _ → _ → _ → _ → Prop}
  (h : ∀ a b c d e f, K ((), (), (), S (stripR z).1.ft, (stripR z).1.v, ()) (stripR z).2 (TV (stripR z).1.ty) a b (RV (stripR z).1.tr) c d (RV (stripR z).1.lp) e f) : Xright_Strip (tupZ z) K := by
 unfold Xright_Strip Yright_Strip
 refine sRight z hz ?_
 unfold stripR at h
 cases hr : zoneRight z
 ·rw [if_pos (by rfl)]
  rw [hr, if_neg (by simp)] at h
  exact h _ _ _ _ _ _
 rw [if_neg (by simp)]
 rw [hr, if_pos rfl] at h
 have hzr : ZR z := ⟨hz, hr⟩
 refine sMoved_1 z hzr (fun q f' g i => ?_) fun q => ?_
 ·rw [q] at h
  exact h _ _ _ _ _ _
 ·have e : (movedR z (subR z)).1 = zn0 := by
   unfold movedR at q ⊢
   split at q
   ·rename_i q1
    rw [if_pos q1]
    split at q
    ·exact absurd rfl q
    ·rename_i q2; rw [if_neg q2]
   ·rename_i q1; rw [if_neg q1]
  rw [e] at h
  exact h _ _ _ _ _ _
theorem qSame12 (a b : List Rec) (hl : a.length ≤ 100000) {K : Bool → Prop} (h : K (a == b)) : Xepactref12_Same (RV a) (RV b) K := by
 unfold Xepactref12_Same Yepactref12_Same
 rw [RV_len, RV_len]
 by_cases e : a.length = b.length
 ·rw [if_neg (by simp [e])]
  refine lp_ind (fun x => a.length - x.1.2.2.2.1.toNat) (fun x => ∃ j : Nat, j ≤ a.length ∧ x = ((RV a, RV b, false, (j : Int), ()), ()) ∧ a.take j = b.take j) ?_ ⟨0, by omega, rfl, rfl⟩
  rintro x ⟨j, hj, rfl, hall⟩ k hk
  unfold Lepactref12_Same_0
  simp only [decide_eq_true_eq, RV_len]
  by_cases ej : j = a.length
  ·rw [if_neg (by omega)]
   rw [ej, List.take_length, e, List.take_length] at hall
   have : (a == b) = true := by rw [hall]; exact beq_self_eq_true _
   rw [this] at h; exact h
  ·have h1 : j < a.length := by omega
   have h2 : j < b.length := by omega
   rw [Int.toNat_natCast, if_pos (by omega), if_pos (by omega)]
   refine asR1 h1 (asR2 h1 ?_)
   rw [if_pos (by omega)]
   refine asR1 h2 (asR2 h2 ?_)
   have e1 : w64 ((j : Int) + 1) = ((j + 1 : Nat) : Int) := by rw [w64_in (by omega) (by omega)]; omega
   simp only [e1]
   by_cases ee : a[j] = b[j]
   ·rw [if_neg (by rw [ee]; simp)]
    refine hk _ ⟨j + 1, by omega, rfl, ?_⟩ ?_
    ·rw [List.take_succ_eq_append_getElem h1, List.take_succ_eq_append_getElem h2, hall, ee]
    ·show a.length - ((j + 1 : Nat) : Int).toNat < a.length - ((j : Nat) : Int).toNat
     omega
   ·rw [if_pos (by
     simp only [Bool.not_eq_true', Bool.and_true, Bool.and_eq_false_iff, beq_eq_false_iff_ne, ne_eq]
     by_cases q : (a[j]).1 = (b[j]).1
     ·exact .inr fun q2 => ee (Prod.ext q q2)
     ·exact .inl q)]
    have : (a == b) = false := by
     rw [beq_eq_false_iff_ne]; intro hh; subst hh; exact ee rfl
    rw [this] at h; exact h
 ·rw [if_pos (by simp; omega)]
  have : (a == b) = false := by
   rw [beq_eq_false_iff_ne]; intro hh; exact e (by rw [hh])
  rw [this] at h; exact h
theorem qSame16 (a b : Zn) (h1 : a.ty.length ≤ 100000) (h2 : a.tr.length ≤ 100000) (h3 : a.lp.length ≤ 100000) {K : Bool → Prop} (h : K (sameZ a b)) : Xepactref16_Same (tupZ a) (tupZ b) K := by
 show Xepactref16_Same (TV a.ty, RV a.tr, RV a.lp, S a.ft, a.v, ()) (TV b.ty, RV b.tr, RV b.lp, S b.ft, b.v, ()) K
 unfold Xepactref16_Same Yepactref16_Same
 dsimp only
 rw [TV_len, TV_len, RV_len, RV_len, S_toList, S_toList]
 have no : (a.ty ≠ b.ty ∨ a.tr ≠ b.tr ∨ a.ft ≠ b.ft ∨ a.v ≠ b.v) → K false := fun hn => by
  have : sameZ a b = false := by
   unfold sameZ
   simp only [Bool.and_eq_false_iff, beq_eq_false_iff_ne]
   rcases hn with hn | hn | hn | hn
   ·exact .inl (.inl (.inl (.inl hn)))
   ·exact .inl (.inl (.inl (.inr hn)))
   ·exact .inl (.inr hn)
   ·exact .inr hn
  rw [this] at h; exact h
 by_cases e1 : a.ty.length = b.ty.length
 ·rw [if_neg (by simp [e1])]
  by_cases e2 : a.tr.length = b.tr.length
  ·rw [if_neg (by simp [e2])]
   by_cases e3 : a.ft = b.ft
   ·rw [if_neg (by simp [e3])]
    by_cases e4 : a.v = b.v
    ·rw [if_neg (by simp [e4])]
     refine lp_ind (fun x => a.ty.length - x.1.2.2.2.1.toNat) (fun x => ∃ j : Nat, j ≤ a.ty.length ∧ x = (((), (), false, (j : Int), ()), (TV a.ty, RV a.tr, RV a.lp, S a.ft, a.v, ()), (TV b.ty, RV b.tr, RV b.lp, S b.ft, b.v, ()), ()) ∧ a.ty.take j = b.ty.take j) ?_ ⟨0, by omega, rfl, rfl⟩
     rintro x ⟨j, hj, rfl, hall⟩ k hk
     unfold Lepactref16_Same_0
     dsimp only
     rw [TV_len, TV_len, Int.toNat_natCast]
     by_cases ej : j = a.ty.length
     ·rw [if_neg (dneg (by omega))]
      rw [ej, List.take_length, e1, List.take_length] at hall
      refine lp_ind (fun x => a.tr.length - x.1.2.2.2.1.toNat) (fun x => ∃ j : Nat, j ≤ a.tr.length ∧ x = (((), (), false, (j : Int), ()), (TV a.ty, RV a.tr, RV a.lp, S a.ft, a.v, ()), (TV b.ty, RV b.tr, RV b.lp, S b.ft, b.v, ()), ()) ∧ a.tr.take j = b.tr.take j) ?_ ⟨0, by omega, rfl, rfl⟩
      rintro x ⟨i, hi, rfl, hall2⟩ k2 hk2
      unfold Lepactref16_Same_1
      dsimp only
      rw [RV_len, RV_len, Int.toNat_natCast]
      by_cases ei : i = a.tr.length
      ·rw [if_neg (dneg (by omega))]
       rw [ei, List.take_length, e2, List.take_length] at hall2
       refine qSame12 a.lp b.lp h3 ?_
       have : sameZ a b = (a.lp == b.lp) := by unfold sameZ; rw [hall, hall2, e3, e4]; simp
       rw [this] at h; exact h
      ·have h1 : i < a.tr.length := by omega
       have h2 : i < b.tr.length := by omega
       rw [if_pos (decide_eq_true (by omega)), if_pos (by omega)]
       refine asR1 h1 (asR2 h1 ?_)
       rw [if_pos (by omega)]
       refine asR1 h2 (asR2 h2 ?_)
       have e1 : w64 ((i : Int) + 1) = ((i + 1 : Nat) : Int) := by rw [w64_in (by omega) (by omega)]; omega
       simp only [e1]
       by_cases ee : a.tr[i] = b.tr[i]
       ·rw [if_neg (by rw [ee]; simp)]
        refine hk2 _ ⟨i + 1, by omega, rfl, ?_⟩ ?_
        ·rw [List.take_succ_eq_append_getElem h1, List.take_succ_eq_append_getElem h2, hall2, ee]
        ·show a.tr.length - ((i + 1 : Nat) : Int).toNat < a.tr.length - ((i : Nat) : Int).toNat
         omega
       ·rw [if_pos (by
         simp only [Bool.not_eq_true', Bool.and_true, Bool.and_eq_false_iff, beq_eq_false_iff_ne, ne_eq]
         by_cases q : (a.tr[i]).1 = (b.tr[i]).1
         ·exact .inr fun q2 => ee (Prod.ext q q2)
         ·exact .inl q)]
        refine no (.inr (.inl fun hh => ?_))
        have := congrArg (fun l => l[i]?) hh
        simp only [List.getElem?_eq_getElem h1, List.getElem?_eq_getElem h2] at this
        exact ee (Option.some.inj this)
     ·have h1 : j < a.ty.length := by omega
      have h2 : j < b.ty.length := by omega
      rw [if_pos (decide_eq_true (by omega)), if_pos (by omega)]
      refine asT1 h1 (asT2 h1 (asT3 h1 ?_))
      rw [if_pos (by omega)]
      refine asT1 h2 (asT2 h2 (asT3 h2 ?_))
      have e1 : w64 ((j : Int) + 1) = ((j + 1 : Nat) : Int) := by rw [w64_in (by omega) (by omega)]; omega
      simp only [lt, e1, S_toList]
      by_cases ee : a.ty[j] = b.ty[j]
      ·rw [if_neg (by rw [ee]; simp)]
       refine hk _ ⟨j + 1, by omega, rfl, ?_⟩ ?_
       ·rw [List.take_succ_eq_append_getElem h1, List.take_succ_eq_append_getElem h2, hall, ee]
       ·show a.ty.length - ((j + 1 : Nat) : Int).toNat < a.ty.length - ((j : Nat) : Int).toNat
        omega
      ·have : (!((a.ty[j]).1 == (b.ty[j]).1 && ((a.ty[j]).2.1 == (b.ty[j]).2.1 && ((a.ty[j]).2.2 == (b.ty[j]).2.2 && true)))) = true := by
        rw [Bool.not_eq_true']
        cases hh : ((a.ty[j]).1 == (b.ty[j]).1 && ((a.ty[j]).2.1 == (b.ty[j]).2.1 && ((a.ty[j]).2.2 == (b.ty[j]).2.2 && true)))
        ·rfl
        ·exfalso
         simp only [Bool.and_eq_true, beq_iff_eq, and_true] at hh
         exact ee (Prod.ext hh.1 (Prod.ext hh.2.1 hh.2.2))
       rw [if_pos this]
       refine no (.inl fun hh => ?_)
       have := congrArg (fun l => l[j]?) hh
       simp only [List.getElem?_eq_getElem h1, List.getElem?_eq_getElem h2] at this
       exact ee (Option.some.inj this)
    ·rw [if_pos (by simpa using e4)]; exact no (.inr (.inr (.inr e4)))
   ·rw [if_pos (by simpa using e3)]; exact no (.inr (.inr (.inl e3)))
  ·rw [if_pos (by simp; omega)]; exact no (.inr (.inl fun hh => e2 (by rw [hh])))
 ·rw [if_pos (by simp; omega)]; exact no (.inl fun hh => e1 (by rw [hh]))
end Go.Proofs.YtenaflbcnkalbaaGreatDoor
end
section
set_option linter.unusedVariables false
set_option linter.unusedSimpArgs false
namespace Go.Proofs.YtenaflbcnkalbaaGreatDoor
open Go Go.Proofs.YtenaflbcnkalbaaGreatDoor.Eng Go.Proofs.YtenaflbcnkalbaaGreatDoor.Pl
theorem rleap (y : Int) {K} (h : K (leapY y)) : Xepactref03_Leap y K := by
 unfold Xepactref03_Leap Yepactref03_Leap
 obtain ⟨t1, t2, t3⟩ := tmod_leap y
 have fin : ∀ z : Bool, (z = true ↔ (y % 4 = 0 ∧ (y % 100 ≠ 0 ∨ y % 400 = 0))) → K z := fun z hz => cast (congrArg K (Bool.eq_iff_iff.2 ((leapY_iff y).trans hz.symm))) h
 simp only [beq_iff_eq, bne_iff_ne, ne_eq, t1, t2]
 refine ifC (fun h1 => ifC (fun h2 => fin _ ?_) fun h2 => fin _ ?_) fun h1 => fin _ ?_
 ·simp; omega
 ·rw [beq_iff_eq, t3]; omega
 ·rw [beq_iff_eq, t3]; omega
theorem rdays (y m : Int) (h1 : 1 ≤ m) (h2 : m ≤ 12) {K} (h : K (dim y m)) : Xepactref03_days y m K := by
 unfold Xepactref03_days Yepactref03_days
 rw [w64_in (by omega) (by omega)]
 rcases month_cases h1 h2 with rfl | rfl | rfl | rfl | rfl | rfl | rfl | rfl | rfl | rfl | rfl | rfl
 all_goals first
  | exact ifF (by decide) (ifT (by decide) h)
  |(refine ifT rfl (rleap _ ?_)
    unfold dim at h
    rw [if_pos rfl] at h
    refine ifC (fun hl => ?_) fun hl => ifT (by decide) ?_
    ·rw [if_pos hl] at h; exact h
    ·rw [if_neg hl] at h; exact h)
theorem rlast (y m : Int) {K} (h : K (if 1 ≤ y ∧ y ≤ 9999 ∧ 1 ≤ m ∧ m ≤ 12 then dim y m else 0) (decide (1 ≤ y ∧ y ≤ 9999 ∧ 1 ≤ m ∧ m ≤ 12))) : Xepactref03_Last y m K := by
 unfold Xepactref03_Last Yepactref03_Last
 simp only [decide_eq_true_eq, gt_iff_lt]
 by_cases e : 1 ≤ y ∧ y ≤ 9999 ∧ 1 ≤ m ∧ m ≤ 12
 ·rw [if_pos e, decide_eq_true e] at h
  exact ifF (by omega) (ifF (by omega) (ifF (by omega) (ifF (by omega) (rdays _ _ (by omega) (by omega) h))))
 ·rw [if_neg e, decide_eq_false e] at h
  exact ifC (fun _ => h) fun _ => ifC (fun _ => h) fun _ => ifC (fun _ => h) fun _ => ifT (by omega) h
theorem rfirst (y : Int) (h1 : 1 ≤ y) (h2 : y ≤ 10001) {K} (h : K (fst y)) : Xepactref03_first y K := by
 unfold Xepactref03_first Yepactref03_first
 unfold fst at h
 simp only [lt]
 simp (disch := omega) only [w64_in, Int.tdiv_eq_ediv_of_nonneg]
 exact h
theorem cum_one (y : Int) : cum y 1 = 0 := by unfold cum cum0; simp
theorem cum_bd (y m : Int) (h1 : 1 ≤ m) (h2 : m ≤ 12) : 0 ≤ cum y m ∧ cum y m ≤ 335 := by
 unfold cum cum0
 rcases month_cases h1 h2 with rfl | rfl | rfl | rfl | rfl | rfl | rfl | rfl | rfl | rfl | rfl | rfl
 all_goals (simp only [if_true, if_false, Int.reduceEq]; split <;> omega)
theorem rnum (y m d : Int) (hd0 : -9223372036854775808 ≤ d) (hd1 : d ≤ 9223372036854775807) {K} (h : K (if okD y m d then num y m d else 0) (decide (okD y m d))) : Xepactref03_Number y m d K := by
 unfold Xepactref03_Number Yepactref03_Number
 refine rlast _ _ ?_
 simp only [decide_eq_true_eq, gt_iff_lt, lt]
 by_cases e : 1 ≤ y ∧ y ≤ 9999 ∧ 1 ≤ m ∧ m ≤ 12
 ·rw [decide_eq_true e, if_pos e]
  refine ifF (by simp) ?_
  by_cases e2 : 1 ≤ d ∧ d ≤ dim y m
  ·have ok : okD y m d := ⟨e.1, e.2.1, e.2.2.1, e.2.2.2, e2.1, e2.2⟩
   rw [if_pos ok, decide_eq_true ok] at h
   have hd := dim_bd y m
   have hf := fst_bd e.1 e.2.1
   have hf2 := fst_le (y := y) (z := y + 1) (by omega)
   refine ifF (by omega) (ifF (by omega) (rfirst y (by omega) (by omega) ?_))
   rw [w64_in (n := fst y + d) (by omega) (by omega), w64_in (n := fst y + d - 1) (by omega) (by omega)]
   refine lp_at (fun j : Nat => ((y, m, (0 : Int), false, fst y + d - 1 + cum y (1 + j), (1 + j : Int), ()), ())) (m - 1).toNat (by simp [cum_one]) fun j hj k hk => ?_
   unfold Lepactref03_Number_0
   simp only [decide_eq_true_eq]
   have hc := cum_bd y (1 + j) (by omega) (by omega)
   by_cases hlt : (1 + j : Int) < m
   ·refine ifT hlt (rdays _ _ (by omega) (by omega) ?_)
    have hs := cum_succ y (1 + j) (by omega) (by omega)
    rw [if_neg (by omega)] at hs
    have hdj := dim_bd y (1 + j)
    have := hk (by omega)
    rw [w64_in (by omega) (by omega), w64_in (by omega) (by omega)]
    refine cast (congrArg k ?_) this
    simp only [Prod.mk.injEq, and_true, true_and]
    constructor
    ·rw [show (1 : Int) + ((j + 1 : Nat) : Int) = 1 + j + 1 by omega]; omega
    ·omega
   ·refine ifF hlt ?_
    have : (1 + j : Int) = m := by omega
    rw [this]
    unfold num at h
    rw [show fst y + d - 1 + cum y m = fst y + cum y m + d - 1 by omega]; exact h
  ·have ok : ¬ okD y m d := fun h => e2 h.2.2.2.2
   rw [if_neg ok, decide_eq_false ok] at h
   exact ifC (fun _ => h) fun _ => ifT (by omega) h
 ·have ok : ¬ okD y m d := fun h => e ⟨h.1, h.2.1, h.2.2.1, h.2.2.2.1⟩
  rw [if_neg ok, decide_eq_false ok] at h
  rw [decide_eq_false e]
  exact ifT rfl h
theorem rweek (n : Int) {K} (h : K (wk n)) : Xepactref03_Week n K := by
 unfold Xepactref03_Week Yepactref03_Week
 have ht : -7 < Int.tmod n 7 ∧ Int.tmod n 7 < 7 ∧ (Int.tmod n 7 + 11) % 7 = (n + 4) % 7 := by
  rw [Int.tmod_eq_emod]; split <;> simp <;> omega
 simp only [lt]
 rw [w64_in (by omega) (by omega), Int.tmod_eq_emod_of_nonneg (by omega), ht.2.2]; exact h
theorem rdiv (a b : Int) (h0 : -9223372036854775808 ≤ a) (h1 : a ≤ 9223372036854775807) (hb : 1 ≤ b) (hb' : b ≤ 9223372036854775807) {K} (h : K (a / b) (a % b) true) : Xepactref01_Div a b K := sdiv a b h0 h1 hb hb' h
theorem radd (a b : Int) (ha : -9223372036854775808 ≤ a ∧ a ≤ 9223372036854775807) (hb : -9223372036854775808 ≤ b ∧ b ≤ 9223372036854775807) {K}
  (h : if -9223372036854775808 ≤ a + b ∧ a + b ≤ 9223372036854775807 then K (a + b) true else K 0 false) : Xepactref01_Add a b K := by
 unfold Xepactref01_Add Yepactref01_Add
 simp only [decide_eq_true_eq, gt_iff_lt]
 by_cases e : -9223372036854775808 ≤ a + b ∧ a + b ≤ 9223372036854775807
 ·rw [if_pos e] at h
  rw [w64_in e.1 e.2]
  refine ifC (fun h1 => ?_) fun h1 => ?_
  ·rw [w64_in (n := 9223372036854775807 - b) (by omega) (by omega)]
   exact ifF (by omega) (ifF (by omega) h)
  ·refine ifC (fun h2 => ?_) fun h2 => h
   rw [w64_in (n := -9223372036854775808 - b) (by omega) (by omega)]
   exact ifF (by omega) h
 ·rw [if_neg e] at h
  refine ifC (fun h1 => ?_) fun h1 => ?_
  ·rw [w64_in (n := 9223372036854775807 - b) (by omega) (by omega)]
   exact ifT (by omega) h
  ·refine ifC (fun h2 => ?_) fun h2 => absurd ha (by omega)
   rw [w64_in (n := -9223372036854775808 - b) (by omega) (by omega)]
   exact ifT (by omega) h
theorem rdate (n : Int) {K} (h : if -719162 ≤ n ∧ n ≤ 2932896 then K (yearP n) (monP n) (dayP n) true else K 0 0 0 false) : Xepactref03_Date n K := by
 unfold Xepactref03_Date Yepactref03_Date
 simp only [decide_eq_true_eq, gt_iff_lt, lt]
 by_cases e : -719162 ≤ n ∧ n ≤ 2932896
 ·rw [if_pos e] at h
  refine ifF (by omega) (ifF (by omega) ?_)
  obtain ⟨hv, hn⟩ := num_date e.1 e.2
  have hb := num_bd hv
  rw [hn] at hb
  obtain ⟨v1, v2, v3, v4, v5, v6⟩ := hv
  generalize yearP n = y at *
  generalize monP n = m at *
  generalize dayP n = d at *
  rw [show n - -719162 = n + 719162 by omega, w64_in (n := n + 719162) (by omega) (by omega), Int.tdiv_eq_ediv_of_nonneg (by omega), w64_in (n := (n + 719162) / 366) (by omega) (by omega), w64_in (by omega) (by omega)]
  have hy0 : (n + 719162) / 366 + 1 ≤ y := by
   have h2 := hb.2
   unfold fst at h2
   omega
  refine lp_at (fun j : Nat => ((n, (0 : Int), (0 : Int), (0 : Int), false, (n + 719162) / 366 + 1 + (j : Int), ()), ())) (y - ((n + 719162) / 366 + 1)).toNat (by simp) fun j hj k hk => ?_
  unfold Lepactref03_Date_0
  simp only [decide_eq_true_eq, ge_iff_le]
  rw [w64_in (by omega) (by omega)]
  refine rfirst _ (by omega) (by omega) ?_
  by_cases hlt : (n + 719162) / 366 + 1 + (j : Int) < y
  ·have hle := fst_le (y := (n + 719162) / 366 + 1 + (j : Int) + 1) (z := y) (by omega)
   refine ifT (by omega) ?_
   have := hk (by omega)
   rw [show (n + 719162) / 366 + 1 + ((j + 1 : Nat) : Int) = (n + 719162) / 366 + 1 + (j : Int) + 1 by omega] at this
   exact this
  ·have ey : (n + 719162) / 366 + 1 + (j : Int) = y := by omega
   rw [ey]
   refine ifF (by omega) (rfirst _ (by omega) (by omega) ?_)
   have hf := fst_bd v1 v2
   rw [w64_in (n := n - fst y) (by omega) (by omega)]
   refine lp_at (fun i : Nat => (((0 : Int), (0 : Int), (0 : Int), false, y, n - fst y - cum y (1 + i), (1 + i : Int), ()), ())) (m - 1).toNat (by simp [cum_one]) fun i hi k hk => ?_
   unfold Lepactref03_Date_1
   simp only [decide_eq_true_eq, ge_iff_le]
   have hnum : n = fst y + cum y m + d - 1 := by rw [← hn]; rfl
   have hc := cum_bd y (1 + i) (by omega) (by omega)
   have hcm := cum_bd y m (by omega) (by omega)
   have hdm := dim_bd y m
   refine rdays _ _ (by omega) (by omega) ?_
   by_cases hl2 : (1 + i : Int) < m
   ·have hs := cum_succ y (1 + i) (by omega) (by omega)
    rw [if_neg (by omega)] at hs
    have mono : ∀ (q : Nat) (a : Int), 1 ≤ a → a + q ≤ 12 → cum y a ≤ cum y (a + q) := by
     intro q
     induction q with
     | zero => intro a _ _; simp
     | succ q ih =>
      intro a h1 h2
      have h3 := ih a h1 (by omega)
      have h4 := cum_mono y (a + q) (by omega) (by omega)
      rw [show a + ((q + 1 : Nat) : Int) = a + q + 1 by omega]; omega
    have hm := mono (m - (1 + i + 1)).toNat (1 + i + 1) (by omega) (by omega)
    rw [show (1 + i + 1 : Int) + (((m - (1 + i + 1)).toNat : Nat) : Int) = m by omega] at hm
    have hc2 := cum_bd y (1 + i + 1) (by omega) (by omega)
    refine ifT (by omega) (rdays _ _ (by omega) (by omega) ?_)
    have := hk (by omega)
    rw [w64_in (by omega) (by omega), w64_in (by omega) (by omega)]
    rw [show (1 : Int) + ((i + 1 : Nat) : Int) = 1 + i + 1 by omega] at this
    rw [show n - fst y - cum y (1 + i) - dim y (1 + i) = n - fst y - cum y (1 + i + 1) by omega]
    exact this
   ·have em : (1 + i : Int) = m := by omega
    rw [em]
    refine ifF (by omega) ?_
    rw [w64_in (by omega) (by omega), show n - fst y - cum y m + 1 = d by omega]; exact h
 ·rw [if_neg e] at h
  exact ifC (fun _ => h) fun _ => ifT (by omega) h
end Go.Proofs.YtenaflbcnkalbaaGreatDoor
end
section
set_option linter.unusedVariables false
set_option linter.unusedSimpArgs false
namespace Go.Proofs.YtenaflbcnkalbaaGreatDoor
open Go Go.Proofs.YtenaflbcnkalbaaGreatDoor.Eng Go.Proofs.YtenaflbcnkalbaaGreatDoor.Pl
theorem rruleRight (k a b c x : Int) {K} (h : K (rightR k a b c x)) : Xepactref17_Right (k, a, b, c, x, ()) K := by
 unfold Xepactref17_Right Yepactref17_Right
 simp only [beq_iff_eq, decide_eq_true_eq, gt_iff_lt, ge_iff_le]
 have fin : ∀ z : Bool, (z = true ↔ ((-604799 ≤ x ∧ x ≤ 604799) ∧ ((k = 0 ∧ 1 ≤ a ∧ a ≤ 12 ∧ 1 ≤ b ∧ b ≤ 5 ∧ 0 ≤ c ∧ c ≤ 6) ∨ (k = 1 ∧ 1 ≤ a ∧ a ≤ 365 ∧ b = 0 ∧ c = 0) ∨ (k = 2 ∧ 0 ≤ a ∧ a ≤ 365 ∧ b = 0 ∧ c = 0)))) → K z := fun z hz =>
  cast (congrArg K (Bool.eq_iff_iff.2 ((right_iff k a b c x).trans hz.symm))) h
 clear h
 repeat' (first | refine ifC (fun _ => ?_) (fun _ => ?_) | refine fin _ ?_)
 all_goals (simp only [decide_eq_true_eq, Bool.false_eq_true, false_iff, beq_iff_eq]; omega)
theorem wu8_in {n : Int} (h0 : 0 ≤ n) (h1 : n ≤ 255) : wu8 n = n := by
 simp only [wu8, IntKind.wrap, IntKind.bits, IntKind.signed]
 try simp
 try omega
theorem rtwo (l : List UInt8) {K} (h : K (if (sixtyL l).2.2 = true then (sixtyL l).1 else -1) (S (sixtyL l).2.1)) : Xepactref17_two (S l) K := by
 unfold Xepactref17_two Yepactref17_two
 simp only [S_size, S_extract, decide_eq_true_eq, gt_iff_lt, bne_iff_ne, ne_eq]
 match l, h with
 | [], h => exact ifT (by simp) h
 | [_], h => exact ifT (by simp) h
 | [_, _], h => exact ifT (by simp) h
 | c :: a :: b :: r, h =>
  have hlen : (c :: a :: b :: r).length = r.length + 3 := rfl
  rw [hlen, bAt0, bAt1, bAt2]
  obtain ⟨p, hp⟩ : ∃ p, p = sixtyL (c :: a :: b :: r) := ⟨_, rfl⟩
  rw [← hp] at h
  refine ifF (by omega) (ifT (by omega) ?_)
  by_cases hh : c = 58 ∧ isDig a = true ∧ isDig b = true ∧ a.toNat ≤ 53
  ·rw [sixty_yes hh] at hp
   subst hp
   obtain ⟨rfl, ha, hb, h5⟩ := hh
   unfold isDig at ha hb
   simp at ha hb
   refine ifF (by decide) (ifT (by omega) (ifF (by omega) (ifT (by omega) (ifF (by omega) (ifT (by omega) (ifF (by omega) (ifT (by omega) (ifF (by omega) (ifT (by omega) ?_)))))))))
   simp only [lt]
   refine ifT (by omega) ?_
   rw [wu8_in (by omega) (by omega), wu8_in (by omega) (by omega)]
   simp (disch := omega) only [w64_in]
   refine ifT (by omega) (ifT (by omega) ?_)
   have e3 : ((58 :: a :: b :: r).drop 3).take (Int.toNat ((r.length + 3 : Nat) : Int) - 3) = r := by
    rw [show (58 :: a :: b :: r).drop 3 = r from rfl, List.take_of_length_le (by omega)]
   rw [e3]; exact h
  ·rw [sixty_no hh] at hp
   subst hp
   have h' : K (-1) (S (c :: a :: b :: r)) := h
   by_cases hc : c = 58
   ·subst hc
    have hd : ¬ (48 ≤ a.toNat ∧ a.toNat ≤ 57 ∧ 48 ≤ b.toNat ∧ b.toNat ≤ 57 ∧ a.toNat ≤ 53) := fun hd => hh ⟨rfl, by unfold isDig; simp; omega, by unfold isDig; simp; omega, hd.2.2.2.2⟩
    refine ifF (by decide) (ifT (by omega) (ifC (fun _ => h') fun _ => ifT (by omega) (ifC (fun _ => h') fun _ => ifT (by omega) (ifC (fun _ => h') fun _ => ifT (by omega) (ifT (by omega) h')))))
   ·exact ifT (fun h => hc (u8_eq (by
                     have : c.toNat = 58 := by omega
                     exact this))) h'
end Go.Proofs.YtenaflbcnkalbaaGreatDoor
end
section
set_option linter.unusedVariables false
set_option linter.unusedSimpArgs false
namespace Go.Proofs.YtenaflbcnkalbaaGreatDoor
open Go Go.Proofs.YtenaflbcnkalbaaGreatDoor.Eng Go.Proofs.YtenaflbcnkalbaaGreatDoor.Pl
theorem valL_take_lt (l : List UInt8) (j : Nat) (hj : j ≤ dl l) (hj4 : j ≤ 4) : valL (l.take j) < 10000 := by
 have h := valL_lt _ (take_dl_dig l j hj)
 have hl : (l.take j).length ≤ 4 := by rw [List.length_take]; omega
 have : 10 ^ (l.take j).length ≤ 10 ^ 4 := Nat.pow_le_pow_right (by omega) hl
 omega
theorem bAt_get (l : List UInt8) (j : Nat) (h : j < l.length) : Eng.bAt (S l) j = (l[j].toNat : Int) := by
 rw [bAt_S]; simp [h]
theorem rnumE (l : List UInt8) (m hi j v : Nat) (hj : j ≤ l.length) {K : Int → ByteArray → Prop} (h : if j < 1 ∨ m < j ∨ hi < v then K (-1) (S l) else K (v : Int) (S (l.drop j))) :
  if decide ((j : Int) < (1 : Int)) = true then K (-1 : Int) (S l) else if decide ((j : Int) > (m : Int)) = true then K (-1 : Int) (S l) else if decide ((v : Int) > (hi : Int)) = true then K (-1 : Int) (S l) else
   if (0 : Int) ≤ (↑(ByteArray.size (S l)) : Int) ∧ (↑(ByteArray.size (S l)) : Int) ≤ (↑(ByteArray.size (S l)) : Int) then
    (if (0 : Int) ≤ (j : Int) ∧ (j : Int) ≤ (↑(ByteArray.size (S l)) : Int) then K (v : Int) (ByteArray.extract (S l) (Int.toNat (j : Int)) (Int.toNat (↑(ByteArray.size (S l)) : Int))) else False) else False := by
 simp only [decide_eq_true_eq, gt_iff_lt, S_size, S_extract, Int.toNat_natCast, take_all]
 by_cases e : j < 1 ∨ m < j ∨ hi < v
 ·rw [if_pos e] at h
  exact ifC (fun _ => h) fun _ => ifC (fun _ => h) fun _ => ifT (by omega) h
 ·rw [if_neg e] at h
  exact ifF (by omega) (ifF (by omega) (ifF (by omega) (ifT (by omega) (ifT (by omega) h))))
theorem rnumber (l : List UInt8) (m hi : Nat) (hm : m ≤ 3) (hl : l.length ≤ 140737488351232) {K} (h : K (refNum l m hi).1 (S (refNum l m hi).2)) : Xepactref17_number (S l) 1 (m : Int) (hi : Int) K := by
 unfold Xepactref17_number Yepactref17_number
 have hd := dl_le l
 have fin : ∀ j, j = min (dl l) (m + 1) → if j < 1 ∨ m < j ∨ hi < valL (l.take j) then K (-1) (S l) else K (valL (l.take j) : Int) (S (l.drop j)) := by
  intro j hj
  unfold refNum at h
  by_cases e : dl l = 0 ∨ m < dl l
  ·rw [if_pos (by omega)] at h
   exact ifT (by omega) h
  ·have : j = dl l := by omega
   subst this
   by_cases e2 : hi < valL (l.take (dl l))
   ·rw [if_pos (by omega)] at h
    exact ifT (by omega) h
   ·rw [if_neg (by omega)] at h
    exact ifF (by omega) h
 refine lp_at (fun j : Nat => ((S l, (1 : Int), (m : Int), (hi : Int), (0 : Int), ByteArray.mk #[], (valL (l.take j) : Int), (j : Int), ()), ())) (min (dl l) (m + 1)) (by simp [valL]) fun j hj k hk => ?_
 unfold Lepactref17_number_0
 have hv := valL_take_lt l j (by omega) (by omega)
 by_cases hlt : j < min (dl l) (m + 1)
 ·have hjl : j < l.length := by omega
  have hdig := dl_digit l j (by omega)
  rw [isDig_iff] at hdig
  simp only [S_size, decide_eq_true_eq, ge_iff_le, Int.toNat_natCast, bAt_get l j hjl, lt]
  refine ifT (by omega) (ifT (by omega) (ifT (by omega) (ifT (by omega) (ifT (by omega) (ifT (by omega) (ifT (by omega) ?_))))))
  have := hk hlt
  rw [take_succ_at l j hjl, valL_snoc] at this
  rw [wu8_in (by omega) (by omega)]
  simp (disch := omega) only [w64_in]
  refine cast (congrArg k ?_) this
  simp only [Prod.mk.injEq, and_true, true_and]
  omega
 ·have ej : j = min (dl l) (m + 1) := by omega
  have hex := rnumE l m hi j (valL (l.take j)) (by omega) (fin j ej)
  simp only [decide_eq_true_eq, gt_iff_lt, ge_iff_le] at hex ⊢
  by_cases c1 : j < l.length
  ·simp only [S_size, Int.toNat_natCast, bAt_get l j c1]
   simp only [S_size, Int.toNat_natCast] at hex
   refine ifT (by omega) (ifT (by omega) ?_)
   by_cases c2 : j = m + 1
   ·refine ifC (fun _ => ifT (by omega) (ifC (fun _ => ifF (by omega) hex) fun _ => hex)) fun _ => hex
   ·have hj2 : j = dl l := by omega
    subst hj2
    have hs := dl_stop l c1
    have hs' : ¬ (48 ≤ l[dl l].toNat ∧ l[dl l].toNat ≤ 57) := fun h => by rw [(isDig_iff _).2 h] at hs; cases hs
    refine ifC (fun _ => ifT (by omega) (ifF (by omega) hex)) fun _ => hex
  ·refine ifF (by rw [S_size]; omega) hex
theorem rdot (l : List UInt8) (hl : l.length ≤ 140737488351232) {K} (h : K (refDot l).1 (S (refDot l).2)) : Xepactref17_dot (S l) K := by
 unfold Xepactref17_dot Yepactref17_dot
 simp only [S_size, S_extract, decide_eq_true_eq, bne_iff_ne, ne_eq, Int.toNat_natCast, take_all]
 unfold refDot at h
 cases l with
 | nil => exact ifT (by simp) h
 | cons c r =>
  rw [bAt0]
  simp only [List.length_cons] at hl ⊢
  refine ifF (by omega) (ifT (by omega) ?_)
  by_cases e : c = 46
  ·subst e
   rw [if_pos (show (46 :: r).head? = some 46 from rfl)] at h
   refine ifF (by decide) (ifT (by omega) (ifT (by omega) (rnumber _ 1 9 (by omega) (by simp; omega) ?_)))
   exact h
  ·rw [if_neg (by simpa using e)] at h
   exact ifT (fun h => e (u8_eq (by
                    have : c.toNat = 46 := by omega
                    exact this))) h
theorem refNum_len (l : List UInt8) (m hi : Nat) : (refNum l m hi).2.length ≤ l.length := by
 unfold refNum; split
 ·exact Nat.le_refl _
 ·simp
theorem refDot_len (l : List UInt8) : (refDot l).2.length ≤ l.length := by
 unfold refDot; split
 ·have := refNum_len l.tail 1 9
  rw [List.length_tail] at this; omega
 ·exact Nat.le_refl _
theorem rhead (l : List UInt8) (hl : l.length ≤ 140737488351232) {K} (h : K ((refHead l).1, (refHead l).2.1, (refHead l).2.2.1, (refHead l).2.2.2.1, 7200, ()) (S (refHead l).2.2.2.2)) : Xepactref17_head (S l) K := by
 unfold Xepactref17_head Yepactref17_head
 simp only [S_size, S_extract, decide_eq_true_eq, beq_iff_eq, gt_iff_lt, Int.toNat_natCast, take_all]
 unfold refHead at h
 cases l with
 | nil =>
  simp only [List.length_nil] at hl ⊢
  rw [if_neg (by simp), if_neg (by simp)] at h
  exact ifF (by omega) (ifF (by omega) (rnumber [] 3 365 (by omega) (by simp) h))
 | cons c r =>
  rw [bAt0]
  simp only [List.length_cons] at hl ⊢
  refine ifT (by omega) (ifT (by omega) ?_)
  by_cases e : c = 77
  ·subst e
   rw [if_pos (show (77 :: r).head? = some 77 from rfl)] at h
   simp only [List.tail_cons] at h
   have q1 := refNum_len r 2 12
   have q2 := refDot_len (refNum r 2 12).2
   exact ifT (by decide) (ifT (by omega) (ifT (by omega) (rnumber r 2 12 (by omega) (by omega) (rdot _ (by omega) (rdot _ (by omega) h)))))
  ·rw [if_neg (by simpa using e)] at h
   refine ifF (fun h => e (u8_eq (by
                    have : c.toNat = 77 := by omega
                    exact this))) (ifT (by omega) (ifT (by omega) ?_))
   by_cases e2 : c = 74
   ·subst e2
    rw [if_pos (show (74 :: r).head? = some 74 from rfl)] at h
    simp only [List.tail_cons] at h
    exact ifT (by decide) (ifT (by omega) (ifT (by omega) (rnumber r 3 365 (by omega) (by omega) h)))
   ·rw [if_neg (by simpa using e2)] at h
    exact ifF (fun h => e2 (u8_eq (by
                     have : c.toNat = 74 := by omega
                     exact this))) (rnumber (c :: r) 3 365 (by omega) (by simp; omega) h)
theorem refHead_len (l : List UInt8) : (refHead l).2.2.2.2.length ≤ l.length := by
 unfold refHead
 have q0 : l.tail.length ≤ l.length := by rw [List.length_tail]; omega
 have q1 := refNum_len l.tail 2 12
 have q2 := refDot_len (refNum l.tail 2 12).2
 have q3 := refDot_len (refDot (refNum l.tail 2 12).2).2
 have q4 := refNum_len l.tail 3 365
 have q5 := refNum_len l 3 365
 repeat' split
 all_goals (simp only; omega)
theorem rtimeE (l t : List UInt8) (sg : Int) (hsg : sg = 1 ∨ sg = -1) (v j : Nat) (hv : v ≤ 167) (hj : j ≤ t.length) {K : Int → ByteArray → Bool → Prop}
  (h : if j = 0 then K 0 (S l) false else K (sg * ((v : Int) * 3600 + (sixtyL (t.drop j)).1 * 60 + (moreL (sixtyL (t.drop j))).1)) (S (moreL (sixtyL (t.drop j))).2.1) true) :
  if ((j : Int) == (0 : Int)) = true then K (0 : Int) (S l) false else
   if (0 : Int) ≤ (↑(ByteArray.size (S t)) : Int) ∧ (↑(ByteArray.size (S t)) : Int) ≤ (↑(ByteArray.size (S t)) : Int) then
    (if (0 : Int) ≤ (j : Int) ∧ (j : Int) ≤ (↑(ByteArray.size (S t)) : Int) then
     Xepactref17_two (ByteArray.extract (S t) (Int.toNat (j : Int)) (Int.toNat (↑(ByteArray.size (S t)) : Int))) (fun r27 r28 =>
      (if decide (r27 < (0 : Int)) = true then
       (lt (w64 (w64 (sg * (3600 : Int)) * (v : Int))) fun v29 => K v29 (ByteArray.extract (S t) (Int.toNat (j : Int)) (Int.toNat (↑(ByteArray.size (S t)) : Int))) true)
      else
       Xepactref17_two r28 (fun r30 r31 =>
        (if decide (r30 < (0 : Int)) = true then
         (lt (w64 (w64 ((3600 : Int) * (v : Int)) + w64 ((60 : Int) * r27))) fun v32 => K (w64 (sg * v32)) r28 true)
        else
         (lt (w64 (w64 ((3600 : Int) * (v : Int)) + w64 ((60 : Int) * r27))) fun v33 => (lt (w64 (sg * w64 (v33 + r30))) fun v34 => K v34 r31 true))))))
    else False) else False := by
 simp only [beq_iff_eq, S_size, S_extract, decide_eq_true_eq, Int.toNat_natCast, take_all, lt]
 by_cases e : j = 0
 ·rw [if_pos e] at h
  exact ifT (by omega) h
 ·rw [if_neg e] at h
  refine ifF (by omega) (ifT (by omega) (ifT (by omega) (rtwo _ ?_)))
  have b1 := sixty_bd (t.drop j)
  by_cases e2 : (sixtyL (t.drop j)).2.2 = true
  ·rw [if_pos e2]
   refine ifF (by omega) (rtwo _ ?_)
   have b2 := sixty_bd (sixtyL (t.drop j)).2.1
   have em : moreL (sixtyL (t.drop j)) = sixtyL (sixtyL (t.drop j)).2.1 := by unfold moreL; rw [if_pos e2]
   rw [em] at h
   by_cases e3 : (sixtyL (sixtyL (t.drop j)).2.1).2.2 = true
   ·rw [if_pos e3]
    refine ifF (by omega) ?_
    rcases hsg with rfl | rfl
    ·simp (disch := omega) only [w64_in]
     refine cast (congrArg (fun z => K z (S (sixtyL (sixtyL (t.drop j)).2.1).2.1) true) ?_) h
     omega
    ·simp (disch := omega) only [w64_in]
     refine cast (congrArg (fun z => K z (S (sixtyL (sixtyL (t.drop j)).2.1).2.1) true) ?_) h
     omega
   ·rw [if_neg e3]
    refine ifT (by omega) ?_
    have hz : (sixtyL (sixtyL (t.drop j)).2.1).1 = 0 ∧ (sixtyL (sixtyL (t.drop j)).2.1).2.1 = (sixtyL (t.drop j)).2.1 := sixty_bad _ (by simpa using e3)
    rw [hz.1, hz.2] at h
    rcases hsg with rfl | rfl
    ·simp (disch := omega) only [w64_in]
     refine cast (congrArg (fun z => K z (S (sixtyL (t.drop j)).2.1) true) ?_) h
     omega
    ·simp (disch := omega) only [w64_in]
     refine cast (congrArg (fun z => K z (S (sixtyL (t.drop j)).2.1) true) ?_) h
     omega
  ·rw [if_neg e2]
   refine ifT (by omega) ?_
   have hz := sixty_bad _ (by simpa using e2)
   have em : moreL (sixtyL (t.drop j)) = (0, (sixtyL (t.drop j)).2.1, false) := by unfold moreL; rw [if_neg e2]
   rw [em, hz.1] at h
   simp only at h
   rw [hz.2] at h
   rcases hsg with rfl | rfl
   ·simp (disch := omega) only [w64_in]
    refine cast (congrArg (fun z => K z (S (t.drop j)) true) ?_) h
    omega
   ·simp (disch := omega) only [w64_in]
    refine cast (congrArg (fun z => K z (S (t.drop j)) true) ?_) h
    omega
theorem valL_mono (a b : List UInt8) : valL a ≤ valL (a ++ b) := by
 have : ∀ (b : List UInt8) (n : Nat), n ≤ b.foldl (fun n c => 10 * n + (c.toNat - 48)) n := by
  intro b
  induction b with
  | nil => intro n; exact Nat.le_refl _
  | cons c b ih => intro n; rw [List.foldl_cons]; exact Nat.le_trans (by omega) (ih _)
 unfold valL
 rw [List.foldl_append]
 exact this b _
theorem rtimeL (l t : List UInt8) (sg : Int) (hsg : sg = 1 ∨ sg = -1) (hl : t.length ≤ 140737488351232) {K : Int → ByteArray → Bool → Prop}
  (h : if dl t = 0 then K 0 (S l) false else K (sg * (((hourL t).1 : Int) * 3600 + (sixtyL (t.drop (hourL t).2)).1 * 60 + (moreL (sixtyL (t.drop (hourL t).2))).1)) (S (moreL (sixtyL (t.drop (hourL t).2))).2.1) true) :
  Eng.lp (Lepactref17_Time_0 Xepactref17_two K) ((S l, (0 : Int), ByteArray.mk #[], false, S t, sg, (0 : Int), (0 : Int), ()), ()) := by
 obtain ⟨b1, b2, b3, b4⟩ := hour_bd t
 have hd := dl_le t
 have hmin : valL (t.take (min (dl t) 3)) > 167 → min (dl t) 3 = 3 := fun hg => by
  have h2 : valL (t.take (min (dl t) 3)) < 10 ^ (t.take (min (dl t) 3)).length := valL_lt _ (take_dl_dig t _ (Nat.min_le_left _ _))
  rcases Nat.lt_or_ge (min (dl t) 3) 3 with h | h
  ·have : (t.take (min (dl t) 3)).length ≤ 2 := by rw [List.length_take]; omega
   have : 10 ^ (t.take (min (dl t) 3)).length ≤ 10 ^ 2 := Nat.pow_le_pow_right (by omega) this
   omega
  ·omega
 have hspec : (hourL t).1 = valL (t.take (hourL t).2) ∧ ((hourL t).2 = t.length ∨ (hourL t).2 = 3 ∨ ∃ hlt : (hourL t).2 < t.length, ¬ (48 ≤ t[(hourL t).2].toNat ∧ t[(hourL t).2].toNat ≤ 57) ∨ 167 < 10 * (hourL t).1 + (t[(hourL t).2].toNat - 48)) := by
  by_cases hg : valL (t.take (min (dl t) 3)) > 167
  ·have h3 := hmin hg
   have hh : hourL t = (valL (t.take 3) / 10, 2) := by unfold hourL; rw [if_pos hg, h3]
   rw [h3] at hg
   have hlt : 2 < t.length := by omega
   have hdig := (isDig_iff _).1 (dl_digit t 2 (by omega))
   rw [take_succ_at t 2 hlt, valL_snoc] at hh hg
   rw [hh]
   simp only
   refine ⟨by omega, .inr (.inr ⟨hlt, .inr ?_⟩)⟩
   omega
  ·have hh : hourL t = (valL (t.take (min (dl t) 3)), min (dl t) 3) := by unfold hourL; rw [if_neg hg]
   rw [hh]
   simp only
   refine ⟨trivial, ?_⟩
   rcases Nat.lt_or_ge (dl t) 3 with h3 | h3
   ·have hm : min (dl t) 3 = dl t := by omega
    rw [hm]
    rcases Nat.lt_or_ge (dl t) t.length with hlt | hge
    ·refine .inr (.inr ⟨hlt, .inl fun hc => ?_⟩)
     have hs := dl_stop t hlt
     rw [(isDig_iff _).2 hc] at hs; cases hs
    ·exact .inl (by omega)
   ·exact .inr (.inl (by omega))
 obtain ⟨hval, hex⟩ := hspec
 have fin : (if (hourL t).2 = 0 then K 0 (S l) false else K (sg * (((hourL t).1 : Int) * 3600 + (sixtyL (t.drop (hourL t).2)).1 * 60 + (moreL (sixtyL (t.drop (hourL t).2))).1)) (S (moreL (sixtyL (t.drop (hourL t).2))).2.1) true) := by
  by_cases e : dl t = 0
  ·rw [if_pos e] at h
   exact ifT (by omega) h
  ·rw [if_neg e] at h
   exact ifF (by have := b4 e; omega) h
 have hE := rtimeE l t sg hsg (hourL t).1 (hourL t).2 b1 (by omega) fin
 refine lp_at (fun j : Nat => ((S l, (0 : Int), ByteArray.mk #[], false, S t, sg, (j : Int), (valL (t.take j) : Int), ()), ())) (hourL t).2 (by simp [valL]) fun j hj k hk => ?_
 unfold Lepactref17_Time_0
 by_cases hlt : j < (hourL t).2
 ·have hjl : j < t.length := by omega
  have hdig := (isDig_iff _).1 (dl_digit t j (by omega))
  have hv1 : valL (t.take (j + 1)) ≤ 167 := by
   have e : t.take (hourL t).2 = t.take (j + 1) ++ (t.take (hourL t).2).drop (j + 1) := by
    have := List.take_append_drop (j + 1) (t.take (hourL t).2)
    rw [List.take_take, Nat.min_eq_left (by omega)] at this
    exact this.symm
   have := valL_mono (t.take (j + 1)) ((t.take (hourL t).2).drop (j + 1))
   rw [← e, ← hval] at this
   omega
  have := hk hlt
  rw [take_succ_at t j hjl, valL_snoc] at this hv1
  simp only [S_size, decide_eq_true_eq, ge_iff_le, Int.toNat_natCast, bAt_get t j hjl, lt]
  rw [wu8_in (by omega) (by omega), w64_in (n := (t[j].toNat : Int) - 48) (by omega) (by omega), w64_in (n := 10 * (valL (t.take j) : Int)) (by omega) (by omega),
   w64_in (n := 10 * (valL (t.take j) : Int) + ((t[j].toNat : Int) - 48)) (by omega) (by omega), w64_in (n := (j : Int) + 1) (by omega) (by omega)]
  refine ifT (by omega) (ifT (by omega) (ifT (by omega) (ifT (by omega) (ifT (by omega) (ifT (by omega) (ifT (by omega) (ifT (by omega) (ifT (by omega) ?_))))))))
  refine cast (congrArg k ?_) this
  simp only [Prod.mk.injEq, and_true, true_and]
  omega
 ·have ej : j = (hourL t).2 := by omega
  have hE' := hE
  rw [hval] at hE' hex
  rw [← ej] at hE' hex
  have hj3 : valL (t.take j) < 10000 := valL_take_lt t j (by omega) (by omega)
  simp only [decide_eq_true_eq, ge_iff_le] at hE' ⊢
  rcases hex with hx | hx | ⟨hlt2, hx⟩
  ·exact ifF (by rw [S_size]; omega) hE'
  ·refine ifC (fun _ => ?_) fun _ => hE'
   exact ifF (by omega) hE'
  ·simp only [Int.toNat_natCast, bAt_get t j hlt2] at hE' ⊢
   refine ifT (by rw [S_size]; omega) (ifC (fun _ => ?_) fun _ => hE')
   refine ifT (by rw [S_size]; omega) ?_
   by_cases hg : 48 ≤ t[j].toNat ∧ t[j].toNat ≤ 57
   ·refine ifT (by omega) (ifT (by rw [S_size]; omega) (ifT (by omega) (ifT (by rw [S_size]; omega) ?_)))
    simp only [lt]
    rw [wu8_in (by omega) (by omega), w64_in (n := (t[j].toNat : Int) - 48) (by omega) (by omega), w64_in (n := 10 * (valL (t.take j) : Int)) (by omega) (by omega),
     w64_in (n := 10 * (valL (t.take j) : Int) + ((t[j].toNat : Int) - 48)) (by omega) (by omega)]
    exact ifF (by omega) hE'
   ·refine ifC (fun _ => ?_) fun _ => hE'
    refine ifT (by rw [S_size]; omega) (ifF (by omega) hE')
end Go.Proofs.YtenaflbcnkalbaaGreatDoor
end
section
set_option linter.unusedVariables false
set_option linter.unusedSimpArgs false
namespace Go.Proofs.YtenaflbcnkalbaaGreatDoor
open Go Go.Proofs.YtenaflbcnkalbaaGreatDoor.Eng Go.Proofs.YtenaflbcnkalbaaGreatDoor.Pl
theorem u8_of {c d : UInt8} (h : (c.toNat : Int) = (d.toNat : Int)) : c = d := u8_eq (by omega)
theorem drop1 (c : UInt8) (r : List UInt8) : ByteArray.extract (S (c :: r)) 1 (Int.toNat (↑(ByteArray.size (S (c :: r))) : Int)) = S r := by
 rw [S_extract, S_size, Int.toNat_natCast, take_all]; rfl
theorem rtime (l : List UInt8) (hl : l.length ≤ 140737488351232) {K} (h : K (timeL l).1 (S (timeL l).2.1) (timeL l).2.2) : Xepactref17_Time (S l) K := by
 unfold Xepactref17_Time Yepactref17_Time
 have key : ∀ (t : List UInt8) (sg : Int), (sg = 1 ∨ sg = -1) → signL l = (sg, t) → t.length ≤ l.length → Eng.lp (Lepactref17_Time_0 Xepactref17_two K) ((S l, (0 : Int), ByteArray.mk #[], false, S t, sg, (0 : Int), (0 : Int), ()), ()) := by
  intro t sg hsg he ht
  refine rtimeL l t sg hsg (by omega) ?_
  unfold timeL at h
  rw [he] at h
  by_cases e : dl t = 0
  ·rw [if_pos e] at h
   exact ifT e h
  ·rw [if_neg e] at h
   exact ifF e h
 cases l with
 | nil => exact ifF (by decide) (key [] 1 (.inl rfl) rfl (Nat.le_refl _))
 | cons c r =>
  have hs : (↑(ByteArray.size (S (c :: r))) : Int) = (r.length : Int) + 1 := by rw [S_size]; rfl
  rw [drop1, bAt0, hs]
  simp only [decide_eq_true_eq, gt_iff_lt, beq_iff_eq]
  refine ifT (by omega) (ifT (by omega) (ifC (fun e => ?_) fun e => ifT (by omega) (ifC (fun e2 => ?_) fun e2 => ?_)))
  ·have : c = 45 := u8_of e
   subst this
   exact ifT (by omega) (ifT e (ifT (by omega) (ifT (by omega) (key r (-1) (.inr rfl) rfl (by simp)))))
  ·have : c = 43 := u8_of e2
   subst this
   exact ifT (by omega) (ifF e (ifT (by omega) (ifT (by omega) (key r 1 (.inl rfl) rfl (by simp)))))
  ·refine key (c :: r) 1 (.inl rfl) ?_ (Nat.le_refl _)
   show (if c = 45 then ((-1 : Int), r) else if c = 43 then (1, r) else (1, c :: r)) = (1, c :: r)
   rw [if_neg (fun h => e (by rw [h]; rfl)), if_neg (fun h => e2 (by rw [h]; rfl))]
theorem rruleParse (l : List UInt8) (hl : l.length ≤ 140737488351232) {K} (h : K ((parseL l).1, (parseL l).2.1, (parseL l).2.2.1, (parseL l).2.2.2.1, (parseL l).2.2.2.2.1, ()) (S (parseL l).2.2.2.2.2.1) (parseL l).2.2.2.2.2.2) : Xepactref17_Parse (S l) K := by
 unfold Xepactref17_Parse Yepactref17_Parse
 refine rhead l hl (rruleRight _ _ _ _ _ ?_)
 have hlen := refHead_len l
 by_cases hR : rightR (refHead l).1 (refHead l).2.1 (refHead l).2.2.1 (refHead l).2.2.2.1 7200 = true
 ·refine ifF (by simp [hR]) ?_
  have hd := head_yes l hR
  have hp : parseL l = if (refHead l).2.2.2.2.head? = some 47 then
    (if (timeL (refHead l).2.2.2.2.tail).2.2 = true ∧ rightR (refHead l).1 (refHead l).2.1 (refHead l).2.2.1 (refHead l).2.2.2.1 (timeL (refHead l).2.2.2.2.tail).1 = true then
     ((refHead l).1, (refHead l).2.1, (refHead l).2.2.1, (refHead l).2.2.2.1, (timeL (refHead l).2.2.2.2.tail).1, (timeL (refHead l).2.2.2.2.tail).2.1, true) else (0, 0, 0, 0, 0, l, false))
    else ((refHead l).1, (refHead l).2.1, (refHead l).2.2.1, (refHead l).2.2.2.1, 7200, (refHead l).2.2.2.2, true) := by
   unfold parseL
   rw [hd]
   simp only [if_true]
   rw [if_pos hR]
  generalize parseL l = q at *
  generalize (refHead l).2.2.2.2 = rest at *
  cases rest with
  | nil =>
   rw [if_neg (by simp)] at hp
   subst hp
   exact ifF (by rw [S_size]; simp) h
  | cons c r =>
   have hs : (↑(ByteArray.size (S (c :: r))) : Int) = (r.length : Int) + 1 := by rw [S_size]; rfl
   rw [drop1, bAt0, hs]
   simp only [List.length_cons] at hlen
   simp only [decide_eq_true_eq, gt_iff_lt, beq_iff_eq]
   refine ifT (by omega) (ifT (by omega) (ifC (fun e => ?_) fun e => ?_))
   ·have : c = 47 := u8_of e
    subst this
    rw [if_pos (show (47 :: r).head? = some 47 from rfl), List.tail_cons] at hp
    refine ifT (by omega) (ifT (by omega) (rtime r (by omega) ?_))
    have hb := time_bd r
    have hs := right_sec (refHead l).1 (refHead l).2.1 (refHead l).2.2.1 (refHead l).2.2.2.1 (timeL r).1 7200 ⟨hb.1, hb.2.1⟩ (by omega)
    have hR' := hs.trans hR
    by_cases ht : (timeL r).2.2 = true
    ·rw [if_pos ⟨ht, hR'⟩] at hp
     subst hp
     exact ifF (by simp [ht]) h
    ·rw [if_neg (fun h => ht h.1)] at hp
     subst hp
     exact ifT (by simpa using ht) h
   ·rw [if_neg (fun h => e (by simp at h; rw [h]; rfl))] at hp
    subst hp
    exact h
 ·have hno : (dateL l).2.2.2.2.2 = true → ¬ rightR (dateL l).1 (dateL l).2.1 (dateL l).2.2.1 (dateL l).2.2.2.1 7200 = true := by
   intro ho h
   have e := head_of l ho h
   rw [e] at hR
   exact hR h
  have hz : parseL l = (0, 0, 0, 0, 0, l, false) := by
   unfold parseL
   by_cases ho : (dateL l).2.2.2.2.2 = true
   ·rw [if_pos ho]
    have h' := hno ho
    split
    ·have hb := time_bd (dateL l).2.2.2.2.1.tail
     rw [if_neg (fun h => h' ((right_sec _ _ _ _ 7200 (timeL (dateL l).2.2.2.2.1.tail).1 (by omega) ⟨hb.1, hb.2.1⟩).trans h.2))]
    ·first | rfl | rw [if_neg h']
   ·rw [if_neg ho]
  rw [hz] at h
  exact ifT (by simpa using hR) h
theorem rdayLoop (n last A B C : Int) (r : Int) (hr : r = (C - wk n + 7) % 7) (hC : 0 ≤ C ∧ C ≤ 6) (hB : 1 ≤ B ∧ B ≤ 5) (hl : 28 ≤ last ∧ last ≤ 31) (hn : -800000 ≤ n ∧ n ≤ 3000000) (K0 X : Int) {K : Int → Bool → Prop} (h : K (atW n r B last) true) :
  Eng.lp (Lepactref17_Day_0 Xepactref03_Week K) (((), (0 : Int), false, n, last, (-1 : Int), (0 : Int), n, ()), (K0, A, B, C, X, ()), ()) := by
 have hr6 : 0 ≤ r ∧ r ≤ 6 := by omega
 refine lp_at (fun t : Nat => (((), (0 : Int), false, n, last, atW n r B t, manyW r B t, n + (t : Int), ()), (K0, A, B, C, X, ()), ())) last.toNat ?_ fun t ht k hk => ?_
 ·have hm0 : manyW r B ((0 : Nat) : Int) = 0 := by unfold manyW hits; split <;> omega
  have ha0 : atW n r B ((0 : Nat) : Int) = -1 := by unfold atW; rw [hm0]; rfl
  simp only [hm0, ha0]
  simp
 ·unfold Lepactref17_Day_0
  simp only [decide_eq_true_eq, beq_iff_eq]
  have hw : wk (n + t) = C ↔ (t : Int) % 7 = r := by
   unfold wk at hr ⊢
   omega
  have hm : 0 ≤ manyW r B t ∧ manyW r B t ≤ 5 := by unfold manyW hits; split <;> omega
  rw [w64_in (n := n + last) (by omega) (by omega)]
  by_cases hlt : (t : Int) < last
  ·have ih := hk (by omega)
   rw [show ((t + 1 : Nat) : Int) = (t : Int) + 1 by omega] at ih
   refine ifT (by omega) (rweek _ ?_)
   rw [w64_in (n := n + t + 1) (by omega) (by omega), w64_in (n := manyW r B t + 1) (by omega) (by omega), show n + (t : Int) + 1 = n + ((t : Int) + 1) by omega]
   refine ifC (fun c => ?_) fun c => ?_
   ·have c' := hw.1 c
    refine ifC (fun b => ?_) fun b => ?_
    ·have e2 : manyW r B (t + 1) = manyW r B t + 1 := by
      unfold manyW hits at b ⊢
      split at b <;> split <;> omega
     have e3 : atW n r B (t + 1) = n + t := by
      unfold atW
      rw [e2, if_neg (by omega)]
      unfold manyW hits at b ⊢
      split at b <;> omega
     rw [e2, e3] at ih
     exact ih
    ·have e2 : manyW r B (t + 1) = manyW r B t := by
      unfold manyW hits at b ⊢
      split at b <;> split <;> omega
     have e3 : atW n r B (t + 1) = atW n r B t := by unfold atW; rw [e2]
     rw [e2, e3] at ih
     exact ih
   ·have c' : ¬ (t : Int) % 7 = r := fun h => c (hw.2 h)
    have e2 : manyW r B (t + 1) = manyW r B t := by
     unfold manyW
     have : hits r ((t : Int) + 1) = hits r t := by unfold hits; omega
     rw [this]
    have e3 : atW n r B (t + 1) = atW n r B t := by unfold atW; rw [e2]
    rw [e2, e3] at ih
    exact ih
  ·refine ifF (by omega) ?_
   have : (t : Int) = last := by omega
   rw [this]; exact h
theorem rruleDay (k a b c x y : Int) {K} (h : K (if (1 ≤ y ∧ y ≤ 9999) ∧ rightR k a b c x = true then ruleDay k a b c y else 0) (decide ((1 ≤ y ∧ y ≤ 9999) ∧ rightR k a b c x = true))) : Xepactref17_Day (k, a, b, c, x, ()) y K := by
 unfold Xepactref17_Day Yepactref17_Day
 refine rnum _ _ _ (by omega) (by omega) (rruleRight _ _ _ _ _ ?_)
 simp only [decide_eq_true_eq, gt_iff_lt, ge_iff_le, lt, beq_iff_eq]
 have h1 : okD y 1 1 ↔ (1 ≤ y ∧ y ≤ 9999) := by unfold okD; have := dim_jan y; omega
 by_cases e : rightR k a b c x = true
 ·refine ifF (by simp [e]) ?_
  by_cases ey : 1 ≤ y ∧ y ≤ 9999
  ·rw [if_pos (h1.2 ey), decide_eq_true (h1.2 ey)]
   refine ifF (by simp) ?_
   rw [if_pos ⟨ey, e⟩, decide_eq_true ⟨ey, e⟩] at h
   obtain ⟨hx, hr⟩ := (right_iff k a b c x).1 e
   have hf := fst_bd ey.1 ey.2
   have hf2 := fst_succ y
   rw [num_first]
   unfold ruleDay at h
   refine ifC (fun k1 => ?_) fun k1 => ?_
   ·rw [if_neg (by omega), if_pos k1] at h
    rw [w64_in (n := fst y + a) (by omega) (by omega), w64_in (n := fst y + a - 1) (by omega) (by omega)]
    refine ifC (fun ha => rleap _ ?_) fun ha => ?_
    ·refine ifC (fun hl => ?_) fun hl => ?_
     ·rw [if_neg (by rintro (h | h); omega; rw [hl] at h; cases h)] at h
      rw [w64_in (by omega) (by omega), show fst y + a - 1 + 1 = fst y + a by omega]; exact h
     ·rw [if_pos (.inr (by simpa using hl))] at h
      rw [show fst y + a - 1 = fst y - 1 + a by omega]; exact h
    ·rw [if_pos (.inl (by omega))] at h
     rw [show fst y + a - 1 = fst y - 1 + a by omega]; exact h
   ·refine ifC (fun k2 => ?_) fun k2 => ?_
    ·rw [if_pos k2] at h
     rw [w64_in (by omega) (by omega)]; exact h
    ·rw [if_neg k2, if_neg k1] at h
     refine rnum _ _ _ (by omega) (by omega) (rlast _ _ ?_)
     have hok : okD y a 1 := ⟨ey.1, ey.2, by omega, by omega, by omega, by have := dim_bd y a; omega⟩
     have hv : Vld y a 1 := ⟨ey.1, ey.2, by omega, by omega, by omega, by have := dim_bd y a; omega⟩
     have hnr := num_range hv
     have hdb := dim_bd y a
     rw [if_pos hok, if_pos ⟨ey.1, ey.2, by omega, by omega⟩]
     refine rdayLoop _ _ _ _ _ ((c - wk (num y a 1) + 7) % 7) rfl (by omega) (by omega) hdb (by omega) _ _ ?_
     refine cast (congrArg (fun z => K z true) ?_) h
     unfold offW
     have hr6 : 0 ≤ (c - wk (num y a 1) + 7) % 7 ∧ (c - wk (num y a 1) + 7) % 7 ≤ 6 := by omega
     generalize (c - wk (num y a 1) + 7) % 7 = r at hr6
     generalize num y a 1 = n
     generalize dim y a = q at hdb
     unfold atW manyW hits
     simp only []
     have hB' : b = 1 ∨ b = 2 ∨ b = 3 ∨ b = 4 ∨ b = 5 := by omega
     rcases hB' with rfl | rfl | rfl | rfl | rfl
     all_goals (repeat' split) <;> omega
  ·rw [if_neg (fun h => ey h.1), decide_eq_false (fun h => ey h.1)] at h
   have : ¬ okD y 1 1 := fun h => ey (h1.1 h)
   rw [decide_eq_false this]
   exact ifT rfl h
 ·rw [if_neg (fun h => e h.2), decide_eq_false (fun h => e h.2)] at h
  exact ifT (by simpa using e) h
theorem rruleAtR (r : Ru) (y : Int) {K} (h : if (1 ≤ y ∧ y ≤ 9999) ∧ r.ok = true then K (r.at y) true else K 0 false) : Xepactref17_At (tupRu r) y K := by
 unfold Xepactref17_At Yepactref17_At
 refine rruleDay _ _ _ _ _ _ ?_
 simp only [decide_eq_true_eq, lt]
 by_cases e : (1 ≤ y ∧ y ≤ 9999) ∧ rightR r.k r.a r.b r.c r.x = true
 ·have e' : (1 ≤ y ∧ y ≤ 9999) ∧ r.ok = true := e
  rw [if_pos e'] at h
  rw [if_pos e, decide_eq_true e]
  refine ifF (by simp) ?_
  obtain ⟨hx, hr⟩ := (right_iff _ _ _ _ _).1 e.2
  have hf := fst_bd e.1.1 e.1.2
  have hf2 := fst_succ y
  have hb := ruleDay_bd e.1 e.2
  unfold Ru.at at h
  rw [w64_in (n := 86400 * ruleDay r.k r.a r.b r.c y) (by omega) (by omega), w64_in (by omega) (by omega), Int.mul_comm]
  exact h
 ·have e' : ¬ ((1 ≤ y ∧ y ≤ 9999) ∧ r.ok = true) := e
  rw [if_neg e'] at h
  rw [decide_eq_false e]
  exact ifT rfl h
end Go.Proofs.YtenaflbcnkalbaaGreatDoor
end
section
set_option linter.unusedVariables false
set_option linter.unusedSimpArgs false
namespace Go.Proofs.YtenaflbcnkalbaaGreatDoor
open Go Go.Proofs.YtenaflbcnkalbaaGreatDoor.Eng Go.Proofs.YtenaflbcnkalbaaGreatDoor.Pl
theorem rabbr (l : List UInt8) (hl : l.length ≤ 140737488351232) {K} (h : K (abbrL l)) : Xepactref14_Right (S l) K := by
 unfold Xepactref14_Right Yepactref14_Right
 have hn := nl_le badC l
 refine lp_at (fun j : Nat => ((S l, false, (j : Int), ()), ())) (nl badC l) rfl fun j hj k hk => ?_
 unfold Lepactref14_Right_0
 simp only [decide_eq_true_eq, ge_iff_le, gt_iff_lt, bne_iff_ne, ne_eq, not_true]
 by_cases hlt : j < nl badC l
 ·have hjl : j < l.length := by omega
  have hg : badC l[j] = false := (nl_spec badC l j hjl).1 hlt
  have hk' : k ((S l, false, w64 ((j : Int) + 1), ()), ()) := by
   rw [w64_in (by omega) (by omega)]
   exact hk hlt
  simp only [S_size, Int.toNat_natCast, bAt_get l j hjl]
  unfold badC at hg
  simp at hg
  refine ifT (by omega) (ifT (by omega) ?_)
  repeat' (first | exact hk' | refine ifC (fun _ => ?_) (fun _ => ?_))
  all_goals (exfalso; omega)
 ·have ej : j = nl badC l := by omega
  by_cases hjl : j < l.length
  ·have hb : badC l[j] = true := (nl_spec badC l j hjl).2 ej
   have hK : K false := by
    have : abbrL l = false := by
     unfold abbrL
     rw [show l.any badC = true by rw [nl_any]; exact decide_eq_true (by omega)]
     simp
    rw [← this]; exact h
   simp only [S_size, Int.toNat_natCast, bAt_get l j hjl]
   unfold badC at hb
   simp at hb
   refine ifT (by omega) (ifT (by omega) ?_)
   repeat' (first | exact hK | refine ifC (fun _ => ?_) (fun _ => ?_))
   all_goals (exfalso; omega)
  ·simp only [S_size]
   refine ifF (by omega) ?_
   have hany : l.any badC = false := by rw [nl_any]; exact decide_eq_false (by omega)
   unfold abbrL at h
   rw [hany] at h
   refine ifC (fun h1 => ?_) fun h1 => ?_
   ·refine cast (congrArg K ?_) h
    apply Bool.eq_iff_iff.2
    simp
    omega
   ·refine cast (congrArg K ?_) h
    apply Bool.eq_iff_iff.2
    simp
    omega
theorem rkind (o : Int) (d : Bool) (l : List UInt8) (hl : l.length ≤ 140737488351232) (w : Bool) {K} (h : K (kindR o d l w)) : Xepactref18_kind (o, d, S l, ()) w K := by
 unfold Xepactref18_kind Yepactref18_kind
 refine rabbr l hl ?_
 unfold kindR at h
 simp only [ge_iff_le, decide_eq_true_eq, beq_iff_eq]
 by_cases e1 : abbrL l = true
 ·refine ifT e1 ?_
  by_cases e2 : d = w
  ·refine ifT e2 ?_
   simp only [e1, e2, beq_self_eq_true, Bool.true_and] at h
   refine ifC (fun e3 => cast (congrArg K ?_) h) fun e3 => cast (congrArg K ?_) h
   ·simp [e3]
   ·simp [e3]
  ·exact ifF e2 (cast (congrArg K (by simp [e2])) h)
 ·exact ifF e1 (cast (congrArg K (by simp [e1])) h)
theorem rfootRight (f : Ft) (h1 : f.sa.length ≤ 140737488351232) (h2 : f.wa.length ≤ 140737488351232) {K} (h : K f.ok) : Xepactref18_Right (tupFt f) K := by
 unfold Xepactref18_Right Yepactref18_Right
 unfold Ft.ok at h
 by_cases eh : f.has = true
 ·rw [if_pos eh] at h
  refine ifF (by simp [eh]) (rruleRight _ _ _ _ _ (rruleRight _ _ _ _ _ ?_))
  have fin : ∀ z : Bool, z = (kindR f.so f.sd f.sa false && (kindR f.wo f.wd f.wa true && f.fr.ok && f.to.ok)) → K z := fun z hz => by rw [hz]; exact h
  by_cases e3 : f.fr.ok = true
  ·refine ifT e3 ?_
   by_cases e4 : f.to.ok = true
   ·refine ifT e4 (rkind _ _ _ h1 _ ?_)
    by_cases e1 : kindR f.so f.sd f.sa false = true
    ·exact ifT e1 (rkind _ _ _ h2 _ (fin _ (by simp [e1, e3, e4])))
    ·exact ifF e1 (fin _ (by simp [e1]))
   ·exact ifF e4 (fin _ (by simp [e4]))
  ·exact ifF e3 (fin _ (by simp [e3]))
 ·rw [if_neg eh] at h
  refine ifT (by simpa using eh) (rkind _ _ _ h1 _ ?_)
  have key : ∀ z : Bool, (z = true ↔ f.bare) → kindR f.so f.sd f.sa false = true → K z := fun z hz e => by
   rw [e, Bool.true_and] at h
   exact cast (congrArg K (Bool.eq_iff_iff.2 (decide_eq_true_iff.trans hz.symm))) h
  by_cases e1 : kindR f.so f.sd f.sa false = true
  ·refine ifT e1 ?_
   simp only [lt]
   have e0 : (ByteArray.mk #[]).toList = [] := S_toList []
   refine ifC (fun c1 => ifC (fun c2 => key _ ?_ e1) fun c2 => key _ ?_ e1) fun c1 => key _ ?_ e1
   ·unfold Ft.bare
    simp [S_toList] at c1 c2 ⊢
    constructor <;> intro hh <;> simp [hh, c1, c2]
   ·unfold Ft.bare
    simp [S_toList] at c1 c2 ⊢
    intro _ _ _ q1 q2 q3 q4 q5
    exact absurd q5 (c2 q1 q2 q3 q4)
   ·unfold Ft.bare
    simp [S_toList] at c1 ⊢
    intro q1 q2 q3
    exact absurd q3 (c1 q1 q2)
  ·exact ifF e1 (cast (congrArg K (by simp [e1])) h)
end Go.Proofs.YtenaflbcnkalbaaGreatDoor
end
section
set_option linter.unusedVariables false
set_option linter.unusedSimpArgs false
namespace Go.Proofs.YtenaflbcnkalbaaGreatDoor
open Go Go.Proofs.YtenaflbcnkalbaaGreatDoor.Eng Go.Proofs.YtenaflbcnkalbaaGreatDoor.Pl
theorem rletter (c : UInt8) {K} (h : K (letC c)) : Xepactref18_letter (c.toNat : Int) K := by
 unfold Xepactref18_letter Yepactref18_letter
 simp only [decide_eq_true_eq, ge_iff_le]
 unfold letC at h
 repeat' (first | refine ifT (by omega) ?_ | refine ifF (by omega) ?_ | refine ifC (fun _ => ?_) (fun _ => ?_))
 all_goals (refine cast (congrArg K ?_) h; apply Bool.eq_iff_iff.2; simp; omega)
theorem rcut (l : List UInt8) (c : UInt8) (hl : l.length ≤ 140737488351232) {K} (h : K (S (splitL c l).1) (S (splitL c l).2.1) (splitL c l).2.2) : Xepactref05_Cut (S l) (S [c]) K := by
 unfold Xepactref05_Cut Yepactref05_Cut
 have hn := nl_le (· == c) l
 refine lp_at (fun j : Nat => ((S l, S [c], ByteArray.mk #[], ByteArray.mk #[], false, (j : Int), ()), ())) (nl (· == c) l) rfl fun j hj k hk => ?_
 unfold Lepactref05_Cut_0
 unfold splitL at h
 simp only [decide_eq_true_eq, S_size, S_extract, S_toList, List.length_singleton]
 rw [w64_in (n := (j : Int) + ((1 : Nat) : Int)) (by omega) (by omega)]
 by_cases hjl : j < l.length
 ·refine ifT (by omega) (ifT (by simp) (ifT (by omega) (ifT (by omega) ?_)))
  have e1 : Int.toNat ((j : Int) + ((1 : Nat) : Int)) = j + 1 := by omega
  have e2 : (l.drop j).take (j + 1 - j) = [l[j]] := by
   rw [List.drop_eq_getElem_cons hjl, show j + 1 - j = 1 by omega]; rfl
  simp only [lt, e1, Int.toNat_natCast, e2, List.drop_zero, Nat.sub_zero, take_all]
  by_cases hlt : j < nl (· == c) l
  ·have hg := (nl_spec (· == c) l j hjl).1 hlt
   refine ifF (by simpa using hg) ?_
   rw [w64_in (n := (j : Int) + 1) (by omega) (by omega)]
   exact hk hlt
  ·have hg := (nl_spec (· == c) l j hjl).2 (by omega)
   have ej : nl (· == c) l = j := by omega
   rw [ej, if_pos hjl] at h
   refine ifT (by simpa using hg) (ifT (by omega) (ifT (by omega) (ifT (by omega) (ifT (by omega) h))))
 ·rw [if_neg (by omega)] at h
  exact ifF (by omega) h
theorem rname (l : List UInt8) (hl : l.length ≤ 140737488351232) {K} (h : K (S (nameP l).1) (S (nameP l).2.2) (nameP l).2.1) : Xepactref18_name (S l) K := by
 unfold Xepactref18_name Yepactref18_name
 have hn := nl_le (fun c => !letC c) l
 have key : (l.head? = some 60 → False) → Eng.lp (Lepactref18_name_0 Xepactref18_letter Xepactref14_Right K) ((S l, ByteArray.mk #[], ByteArray.mk #[], false, (0 : Int), ()), ()) := by
  intro h60
  unfold nameP at h
  rw [if_neg h60] at h
  refine lp_at (fun j : Nat => ((S l, ByteArray.mk #[], ByteArray.mk #[], false, (j : Int), ()), ())) (nl (fun c => !letC c) l) rfl fun j hj k hk => ?_
  unfold Lepactref18_name_0
  simp only [decide_eq_true_eq]
  by_cases hjl : j < l.length
  ·simp only [S_size, S_extract, Int.toNat_natCast, bAt_get l j hjl, List.drop_zero, Nat.sub_zero, take_all]
   refine ifT (by omega) (ifT (by omega) (rletter _ ?_))
   by_cases hlt : j < nl (fun c => !letC c) l
   ·have hg := (nl_spec (fun c => !letC c) l j hjl).1 hlt
    refine ifT (by simpa using hg) ?_
    rw [w64_in (by omega) (by omega)]
    exact hk hlt
   ·have hg := (nl_spec (fun c => !letC c) l j hjl).2 (by omega)
    have ej : nl (fun c => !letC c) l = j := by omega
    rw [ej] at h
    refine ifF (by simpa using hg) (ifT (by omega) (ifT (by omega) (rabbr _ (by rw [List.length_take]; omega) (ifT (by omega) (ifT (by omega) (ifT (by omega) (ifT (by omega) h)))))))
  ·simp only [S_size, S_extract, Int.toNat_natCast, List.drop_zero, Nat.sub_zero, take_all]
   have ej : nl (fun c => !letC c) l = j := by omega
   rw [ej] at h
   exact ifF (by omega) (ifT (by omega) (ifT (by omega) (rabbr _ (by rw [List.length_take]; omega) (ifT (by omega) (ifT (by omega) (ifT (by omega) (ifT (by omega) h)))))))
 cases l with
 | nil => exact ifF (by decide) (key (by simp))
 | cons c r =>
  have hs : (↑(ByteArray.size (S (c :: r))) : Int) = (r.length : Int) + 1 := by rw [S_size]; rfl
  rw [drop1, bAt0, hs]
  simp only [decide_eq_true_eq, gt_iff_lt, beq_iff_eq]
  simp only [List.length_cons] at hl
  refine ifT (by omega) (ifT (by omega) (ifC (fun e => ?_) fun e => ?_))
  ·have : c = 60 := u8_of e
   subst this
   have e0 : nameP (60 :: r) = ((splitL 62 r).1, (splitL 62 r).2.2 && abbrL (splitL 62 r).1, (splitL 62 r).2.1) := by
    exact if_pos rfl
   rw [e0] at h
   have hle : (splitL 62 r).1.length ≤ r.length := by
    unfold splitL; split
    ·rw [List.length_take]; omega
    ·exact Nat.le_refl _
   refine ifT (by omega) (ifT (by omega) (rcut r 62 (by omega) (rabbr _ (by omega) ?_)))
   by_cases e2 : (splitL 62 r).2.2 = true
   ·rw [e2, Bool.true_and] at h
    exact ifT e2 h
   ·rw [Bool.eq_false_iff.2 e2, Bool.false_and] at h
    exact ifF e2 h
  ·exact key fun h => e (by simp at h; rw [h]; rfl)
theorem rchecked (f : Ft) (h1 : f.sa.length ≤ 140737488351232) (h2 : f.wa.length ≤ 140737488351232) {K} (h : K (tupFt f.chk.1) f.chk.2) : Xepactref18_checked (tupFt f) K := by
 unfold Xepactref18_checked Yepactref18_checked
 refine rfootRight f h1 h2 ?_
 unfold Ft.chk at h
 by_cases e : f.ok = true
 ·rw [if_pos e] at h
  exact ifF (by simp [e]) h
 ·rw [if_neg e] at h
  exact ifT (by simpa using e) h
theorem time_same (l : List UInt8) (h : ¬ (timeL l).2.2 = true) : (timeL l).2.1 = l := by
 obtain ⟨j, _, e, _, _, _, h0⟩ := time_drop l
 rw [e, (h0 (by simpa using h)).2]; rfl
theorem rfootSpan (f : Ft) (y : Int) (h1 : f.sa.length ≤ 140737488351232) (h2 : f.wa.length ≤ 140737488351232) {K} (h : ∀ a b ok, (f.spans y ∧ a = f.from' y ∧ b = f.to' y ∧ ok = true) ∨ (¬ f.spans y ∧ a = 0 ∧ b = 0 ∧ ok = false) → K a b ok) : Xepactref18_Span (tupFt f) y K := by
 unfold Xepactref18_Span Yepactref18_Span
 refine rfootRight f h1 h2 ?_
 by_cases e : f.ok = true
 ·refine ifF (by simp [e]) ?_
  by_cases eh : f.has = true
  ·refine ifF (by simp [eh]) ?_
   have e' := e
   unfold Ft.ok at e'
   rw [if_pos eh, Bool.and_eq_true, Bool.and_eq_true, Bool.and_eq_true] at e'
   obtain ⟨e0, ⟨e1, e2⟩, e3⟩ := e'
   obtain ⟨k1, k2, k3, k4⟩ := kind_iff.1 e0
   obtain ⟨j1, j2, j3, j4⟩ := kind_iff.1 e1
   have r1 := (right_iff _ _ _ _ _).1 e2
   have r2 := (right_iff _ _ _ _ _).1 e3
   by_cases ey : 1 ≤ y ∧ y ≤ 9999
   ·have hsp : f.spans y := ⟨eh, e, ey.1, ey.2⟩
    have d1 := ruleDay_bd ey e2
    have d2 := ruleDay_bd ey e3
    have hf := fst_bd ey.1 ey.2
    have hf2 := fst_succ y
    refine rruleAtR f.fr y (ifT ⟨ey, e2⟩ (rruleAtR f.to y (ifT ⟨ey, e3⟩ (ifF (by simp) ?_))))
    refine h _ _ _ (.inl ⟨hsp, ?_, ?_, rfl⟩)
    ·show w64 (f.fr.at y - f.so) = _
     unfold Ft.from'
     unfold Ru.at
     rw [w64_in (by omega) (by omega)]
    ·show w64 (f.to.at y - f.wo) = _
     unfold Ft.to'
     unfold Ru.at
     rw [w64_in (by omega) (by omega)]
   ·exact rruleAtR f.fr y (ifF (fun h => ey h.1) (rruleAtR f.to y (ifF (fun h => ey h.1) (ifT rfl (h _ _ _ (.inr ⟨fun h => ey ⟨h.2.2.1, h.2.2.2⟩, rfl, rfl, rfl⟩))))))
  ·exact ifT (by simpa using eh) (h _ _ _ (.inr ⟨fun h => eh h.1, rfl, rfl, rfl⟩))
 ·exact ifT (by simpa using e) (h _ _ _ (.inr ⟨fun h => e h.2.1, rfl, rfl, rfl⟩))
theorem rfootLookup (f : Ft) (p : Int) (hp : i64 p) (ho : i64 f.so) (h1 : f.sa.length ≤ 140737488351232) (h2 : f.wa.length ≤ 140737488351232) {K} (h : if f.sum p then K (f.wo, f.wd, S f.wa, ()) else K (f.so, f.sd, S f.sa, ())) : Xepactref18_Lookup (tupFt f) p K := by
 unfold Xepactref18_Lookup Yepactref18_Lookup
 refine radd _ _ hp ho ?_
 have std : ¬ f.sum p → K (f.so, f.sd, S f.sa, ()) := fun hn => by rw [if_neg hn] at h; exact h
 have dst : f.sum p → K (f.wo, f.wd, S f.wa, ()) := fun hn => by rw [if_pos hn] at h; exact h
 unfold i64 at hp ho
 have rest : ∀ (n : Int) (ok : Bool), i64 n → ((ok = true ∧ n = p + f.so) ∨ (ok = false ∧ ¬ f.sum p)) → (fun (r2 : Int) (r3 : Bool) => Xepactref01_Div r2 86400 (fun r4 r5 r6 => Xepactref03_Date r4 (fun r7 r8 r9 r10 => Xepactref18_Span (tupFt f) r7 (fun r11 r12 r13 =>
   if (!r3) = true then K (f.so, f.sd, S f.sa, ()) else if (!r10) = true then K (f.so, f.sd, S f.sa, ()) else if (!r13) = true then K (f.so, f.sd, S f.sa, ()) else
    if decide (r11 < r12) = true then
     (if decide (p ≥ r11) = true then (if decide (p < r12) = true then K (f.wo, f.wd, S f.wa, ()) else if decide (r11 ≥ r12) = true then (if decide (p ≥ r11) = true then K (f.wo, f.wd, S f.wa, ()) else if decide (p < r12) = true then K (f.wo, f.wd, S f.wa, ()) else K (f.so, f.sd, S f.sa, ())) else K (f.so, f.sd, S f.sa, ()))
      else if decide (r11 ≥ r12) = true then (if decide (p ≥ r11) = true then K (f.wo, f.wd, S f.wa, ()) else if decide (p < r12) = true then K (f.wo, f.wd, S f.wa, ()) else K (f.so, f.sd, S f.sa, ())) else K (f.so, f.sd, S f.sa, ()))
    else if decide (r11 ≥ r12) = true then (if decide (p ≥ r11) = true then K (f.wo, f.wd, S f.wa, ()) else if decide (p < r12) = true then K (f.wo, f.wd, S f.wa, ()) else K (f.so, f.sd, S f.sa, ())) else K (f.so, f.sd, S f.sa, ()))))) n ok := by
  intro n ok hn hok
  unfold i64 at hn
  refine rdiv _ _ (by omega) (by omega) (by omega) (by omega) (rdate _ ?_)
  by_cases ed : -719162 ≤ n / 86400 ∧ n / 86400 ≤ 2932896
  ·refine ifT ed (rfootSpan f _ h1 h2 fun a b is hsp => ?_)
   rcases hok with ⟨rfl, rfl⟩ | ⟨rfl, hno⟩
   ·refine ifF (by simp) (ifF (by simp) ?_)
    rcases hsp with ⟨es, rfl, rfl, rfl⟩ | ⟨es, rfl, rfl, rfl⟩
    ·refine ifF (by simp) ?_
     have hs : f.sum p ↔ ((f.from' (yearP ((p + f.so) / 86400)) ≤ p ∧ p < f.to' (yearP ((p + f.so) / 86400))) ∨ (f.to' (yearP ((p + f.so) / 86400)) ≤ f.from' (yearP ((p + f.so) / 86400)) ∧ (f.from' (yearP ((p + f.so) / 86400)) ≤ p ∨ p < f.to' (yearP ((p + f.so) / 86400))))) :=
      ⟨fun h => h.2.2, fun h => ⟨ed, es, h⟩⟩
     simp only [decide_eq_true_eq, ge_iff_le]
     generalize f.from' (yearP ((p + f.so) / 86400)) = a at *
     generalize f.to' (yearP ((p + f.so) / 86400)) = b at *
     repeat' (first | refine ifC (fun _ => ?_) (fun _ => ?_) | (refine dst (hs.2 ?_); omega) | (refine std (fun h => ?_); have := hs.1 h; omega))
    ·exact ifT (by simp) (std fun h => es h.2.1)
   ·exact ifT (by simp) (std hno)
  ·refine ifF ed (rfootSpan f _ h1 h2 fun a b is hsp => ?_)
   have hno : ¬ f.sum p := by
    rcases hok with ⟨_, rfl⟩ | ⟨_, hno⟩
    ·exact fun h => ed h.1
    ·exact hno
   exact ifC (fun _ => std hno) fun _ => ifT (by simp) (std hno)
 by_cases e : -9223372036854775808 ≤ p + f.so ∧ p + f.so ≤ 9223372036854775807
 ·exact ifT e (rest _ _ e (.inl ⟨rfl, rfl⟩))
 ·exact ifF e (rest _ _ ⟨by omega, by omega⟩ (.inr ⟨rfl, fun h => e (by have := h.1; unfold inDays at this; omega)⟩))
end Go.Proofs.YtenaflbcnkalbaaGreatDoor
end
