/- What the functions come to in plain data, with proofs, and what that answers. -/
import Derived.Test.YtenaflbcnkalbaaGreatDoorJRightCuts1
section
set_option linter.unusedVariables false
set_option linter.unusedSimpArgs false
namespace Go.Proofs.YtenaflbcnkalbaaGreatDoor
open Go Go.Proofs.YtenaflbcnkalbaaGreatDoor.Eng Go.Proofs.YtenaflbcnkalbaaGreatDoor.Pl
set_option linter.unusedVariables false
set_option linter.unusedSimpArgs false
set_option maxRecDepth 100000
set_option maxHeartbeats 4000000
abbrev tupB (t : Tb) : List V × Bool × Int × Unit := (TLV t.ls, t.has, t.ex, ())
theorem sInst (z : Zn) (h : ZR z) (l : LR) (hd : 0 ≤ l.1 ∧ l.1 ≤ 3000000) {K : Int → Prop} (hk : K (instR z l)) : Xright_Instant (tupZ z) (l.1, l.2.1, l.2.2, ()) K := by
  unfold Xright_Instant Yright_Instant
  have w1 : w64 (w64 (l.1 + 1) * 86400) = midL l := by
    unfold midL; rw [w64_in (n := l.1 + 1) (by omega) (by omega), w64_in (by omega) (by omega)]
  have hm : 0 ≤ midL l ∧ midL l ≤ 300000000000 := by unfold midL; omega
  simp only [lt, w1]
  unfold instR at hk
  cases hr : l.2.2
  · rw [if_pos (by rfl)]
    rw [if_neg (by simp [hr])] at hk; exact hk
  · rw [if_neg (by simp)]
    rw [if_pos hr] at hk
    rw [w64_in (n := midL l - 1) (by omega) (by omega)]
    refine zLookup z h _ ?_
    have := right_off h.right (midL l - 1)
    show K (w64 (midL l - (lookZ z (midL l - 1)).1))
    rw [w64_in (by omega) (by omega)]; exact hk
theorem rec_snoc (l : List Rec) (a b : Int) : RV l ++ [V.agg [V.c (.int .i64 a), V.c (.int .i64 b)]] = RV (l ++ [(a, b)]) := by simp [RV, eRec]
theorem min0 (n : Int) : (if 0 < n then 0 else n) = min n 0 := by split <;> omega
theorem sRecords (z : Zn) (hz : ZR z) (t : Tb) (ht : rightT t = true) {K : Int → List V → Bool → Bool → Prop} (h : ∀ o f, K (recordsR z t).2 (RV (recordsR z t).1) o f) : Xright_Records (tupZ z) (tupB t) K := by
  unfold Xright_Records Yright_Records
  have hst := right_steps ht
  have hlen := right_len ht
  have hoff := right_off hz.right
  have inst : ∀ i (hi : i < t.ls.length), 0 < instR z t.ls[i] ∧ instR z t.ls[i] < 300000000000 := fun i hi => inst_pos hoff ht _ (List.getElem_mem hi)
  have sb := sumT_bd hst
  have st := stepT_of hst
  have fin : ∀ l, l = recAll z t → Xrecord_Check (RV l) (fun r11 r12 => if (r12 != 0) = true then K r12 [] true true else K 0 (RV l) true false) := fun l hl => by
    have hi : recI l := by
      intro c hc
      obtain ⟨i, hi, rfl⟩ := List.getElem_of_mem hc
      have hi2 : i < t.ls.length + if t.has = true then 1 else 0 := by rw [← recAll_len z t, ← hl]; exact hi
      have eg : l[i] = (recAll z t).getD i (0, 0) := by rw [← hl, List.getD, List.getElem?_eq_getElem hi]; rfl
      rw [eg]
      by_cases e : i < t.ls.length
      · rw [recAll_lt z t i e]
        have := inst i e
        have := sb i
        have := sb (i + 1)
        have := st i e
        unfold i64r
        exact ⟨⟨by dsimp only; omega, by dsimp only; omega⟩, by dsimp only; omega, by dsimp only; omega⟩
      · have hh : t.has = true := by
          cases hh : t.has
          · rw [hh] at hi2; simp at hi2; omega
          · rfl
        rw [hh, if_pos rfl] at hi2
        have ei : i = t.ls.length := by omega
        rw [ei, recAll_end z t hh]
        have := (right_ex ht).2 hh
        have := sb t.ls.length
        unfold i64r
        exact ⟨⟨by dsimp only; omega, by dsimp only; omega⟩, by dsimp only; omega, by dsimp only; omega⟩
    refine sRecCheck l hi (by rw [hl, recAll_len]; split <;> omega) fun n => ?_
    unfold recordsR at h
    rw [hl]
    by_cases e : recE (recAll z t) = 0
    · rw [if_pos e] at h
      rw [e, if_neg (by simp)]; exact h _ _
    · rw [if_neg e] at h
      rw [if_pos (by simpa using e)]; exact h _ _
  have rl : ∀ j, j ≤ t.ls.length → (recG z 0 (t.ls.take j)).length = j := fun j hj => by rw [recG_len]; simp; omega
  refine lp_at (fun j => (((), (), (), (0 : Int), (), sumT t.ls j, TLV t.ls, (t.ls.length : Int), (j : Int), ()), tupZ z, tupB t, RV (recG z 0 (t.ls.take j)), ())) t.ls.length (by rw [TLV_len]; rfl) fun j hj k hk => ?_
  unfold Lright_Records_0
  dsimp only
  have lj := rl j hj
  rw [TLV_len, RV_len, lj, Int.toNat_natCast]
  have rm : roomOk (j + 1) 16 = true := room16 _ (by omega)
  by_cases e : j < t.ls.length
  · rw [if_pos (decide_eq_true (by omega)), if_pos (by omega)]
    refine asL1 e (asL2 e (asL3 e ?_))
    have hd := right_rng ht _ (List.getElem_mem e)
    refine sInst z hz t.ls[j] (by omega) ?_
    have := inst j e
    have b1 := sb j
    have b2 := sb (j + 1)
    have s1 := sumT_succ e
    have s2 := st j e
    have s3 : Pl.stepT t.ls j = (t.ls[j]).2.1 := by unfold Pl.stepT; rw [List.getD, List.getElem?_eq_getElem e]; rfl
    have w1 : w64 ((j : Int) + 1) = ((j + 1 : Nat) : Int) := by rw [w64_in (by omega) (by omega)]; omega
    have w2 : w64 (sumT t.ls j + (t.ls[j]).2.1) = sumT t.ls (j + 1) := by rw [w64_in (by omega) (by omega)]; omega
    have w3 : w64 (w64 (instR z t.ls[j] + sumT t.ls j) + (if 0 < (t.ls[j]).2.1 then 0 else (t.ls[j]).2.1)) = instR z t.ls[j] + sumT t.ls j + min (t.ls[j]).2.1 0 := by
      rw [min0, w64_in (n := instR z t.ls[j] + sumT t.ls j) (by omega) (by omega), w64_in (by omega) (by omega)]
    simp only [lt, w1, w2, w3, List.length_singleton]
    rw [if_pos rm, rec_snoc]
    have ng : recG z 0 (t.ls.take (j + 1)) = recG z 0 (t.ls.take j) ++ [(instR z t.ls[j] + sumT t.ls j + min (t.ls[j]).2.1 0, sumT t.ls (j + 1))] := by
      rw [← recG_take, ← recG_take, List.take_succ_eq_append_getElem (by rw [recG_len]; exact e), recG_get z t.ls 0 j e (by rw [recG_len]; exact e), s3]
      simp
    rw [← ng]
    exact hk e
  · have : j = t.ls.length := by omega
    subst this
    rw [if_neg (dneg (by omega))]
    rw [List.take_length]
    by_cases hh : t.has = true
    rotate_left
    · rw [if_neg hh]
      exact fin _ (by unfold recAll; rw [if_neg hh]; simp)
    · have x := (right_ex ht).2 hh
      have b1 := sb t.ls.length
      have w4 : w64 (t.ex + sumT t.ls t.ls.length) = t.ex + sumT t.ls t.ls.length := w64_in (by omega) (by omega)
      rw [if_pos hh]
      simp only [lt, w4, List.length_singleton]
      rw [if_pos rm, rec_snoc]
      refine fin _ ?_
      unfold recAll sumT
      rw [hh, if_pos rfl, List.take_length]
theorem sShift (z : Zn) (hz : ZR z) (t : Tb) (ht : rightT t = true) (p : Int) (hp : i64r p) {K : Int → Bool → Prop} (h : K (shiftR z t.ls p).1 (shiftR z t.ls p).2) : Xright_Shift (tupZ z) (tupB t) p K := by
  unfold Xright_Shift Yright_Shift
  have hst := right_steps ht
  have hlen := right_len ht
  refine lp_at (fun j => ((p, (), (0 : Int), false, shiftS z (t.ls.take j) p, TLV t.ls, (t.ls.length : Int), (j : Int), ()), tupZ z, ())) t.ls.length (by rw [TLV_len]; rfl) fun j hj k hk => ?_
  unfold Lright_Shift_0
  dsimp only
  rw [TLV_len, Int.toNat_natCast]
  have bd := shiftS_bd z p (t.ls.take j) fun l hl => hst l (List.mem_of_mem_take hl)
  have lt2 : (t.ls.take j).length ≤ t.ls.length := by simp; omega
  by_cases e : j < t.ls.length
  · rw [if_pos (decide_eq_true (by omega)), if_pos (by omega)]
    refine asL1 e (asL2 e (asL3 e ?_))
    have hd := right_rng ht _ (List.getElem_mem e)
    refine sInst z hz t.ls[j] (by omega) ?_
    have w1 : w64 ((j : Int) + 1) = ((j + 1 : Nat) : Int) := by rw [w64_in (by omega) (by omega)]; omega
    have := hk e
    rw [List.take_succ_eq_append_getElem e, shift_app, shiftS_cons] at this
    have s2 := hst _ (List.getElem_mem e)
    rw [w1]
    by_cases c : instR z t.ls[j] ≤ p
    · rw [if_pos (decide_eq_true c), w64_in (by omega) (by omega)]
      rw [if_pos c] at this
      simpa [shiftS] using this
    · rw [if_neg (dneg c)]
      rw [if_neg c] at this
      simpa [shiftS] using this
  · have : j = t.ls.length := by omega
    subst this
    rw [if_neg (dneg (by omega))]
    rw [List.take_length] at bd ⊢
    refine sadd _ _ hp ⟨by omega, by omega⟩ ?_
    unfold shiftR at h
    by_cases q : inI (p + shiftS z t.ls p)
    · rw [if_pos q] at h
      rw [if_pos (show -9223372036854775808 ≤ p + shiftS z t.ls p ∧ p + shiftS z t.ls p ≤ 9223372036854775807 from q)]; exact h
    · rw [if_neg q] at h
      rw [if_neg (show ¬ (-9223372036854775808 ≤ p + shiftS z t.ls p ∧ p + shiftS z t.ls p ≤ 9223372036854775807) from q)]; exact h
theorem RV_set (l : List Rec) (i : Nat) (h : i < l.length) (x : Int) : List.set (RV l) i (setE (List.getD (RV l) i V.bad) 0 [V.c (.int .i64 x)]) = RV (l.set i (x, (l[i]).2)) := by
  have : List.getD (RV l) i V.bad = eRec l[i] := by simp [RV, List.getD, h]
  rw [this]
  show List.set (RV l) i (eRec (x, (l[i]).2)) = _
  simp [RV, List.map_set]
/-- Changes, the first ones moved. -/
def mixR (f : Int → Int) (l : List Rec) (j : Nat) : List Rec := (l.take j).map (fun c => (f c.1, c.2)) ++ l.drop j
theorem mix_len (f : Int → Int) (l : List Rec) (j : Nat) (h : j ≤ l.length) : (mixR f l j).length = l.length := by simp [mixR]; omega
theorem mix_get (f : Int → Int) (l : List Rec) (j : Nat) (h : j < l.length) (h' : j < (mixR f l j).length) : (mixR f l j)[j] = l[j] := by
  have : (mixR f l j)[j]? = l[j]? := by
    unfold mixR
    rw [List.getElem?_append_right (by simp; omega)]
    simp [Nat.min_eq_left (Nat.le_of_lt h)]
  rw [List.getElem?_eq_getElem h', List.getElem?_eq_getElem h] at this
  exact Option.some.inj this
theorem mix_succ (f : Int → Int) (l : List Rec) (j : Nat) (h : j < l.length) : (mixR f l j).set j (f (l[j]).1, (l[j]).2) = mixR f l (j + 1) := by
  unfold mixR
  rw [List.drop_eq_getElem_cons h]
  have hl : ((l.take j).map (fun c => (f c.1, c.2))).length = j := by simp; omega
  have := set_mid ((l.take j).map (fun c => (f c.1, c.2))) (f (l[j]).1, (l[j]).2) l[j] (l.drop (j + 1))
  rw [hl] at this
  rw [this, List.take_succ_eq_append_getElem h, List.map_append]
  simp
theorem mix_end (f : Int → Int) (l : List Rec) : mixR f l l.length = l.map fun c => (f c.1, c.2) := by simp [mixR]
theorem sSubR (z : Zn) (hz : ZR z) (a : Int) (ha : i64r a) {K : Int → Bool → Prop} (h : K (subR z a).1 (subR z a).2) : Xrecord_Sum (RV z.lp) a (fun r => Xnum_Sub a r K) := by
  have hs := sum_bd hz a
  refine sSum z.lp hz.sl (by have := hz.lp; omega) a ?_
  unfold subR at h
  refine ssub a _ ha ⟨by omega, by omega⟩ (fun q => ?_) fun q => ?_
  · rw [if_pos (show inI (a - sumR z.lp a) from q)] at h; exact h
  · rw [if_neg (show ¬ inI (a - sumR z.lp a) from q)] at h; exact h
theorem sMoved (z : Zn) (hz : ZR z) (t : Tb) (ht : rightT t = true) {K : _ → _ → _ → _ → _ → _ → _ → _ → _ → _ → _ → _ → _ → _ → _ → _ → _ → _ → _ → _ → _ → _ → _ → _ → _ → _ → _ → Prop}
    (hok : (movedR z (shiftR z t.ls)).2 = 0 → ∀ f g i, K ((), (), (), S (movedR z (shiftR z t.ls)).1.ft, (movedR z (shiftR z t.ls)).1.v, ()) 0 (S z.ft) z.v t.has t.ex (TV (movedR z (shiftR z t.ls)).1.ty) true f (RV (movedR z (shiftR z t.ls)).1.tr) true g (RV z.lp) true i (TV z.ty) false true (RV z.tr) false true (RV z.lp) false true (TLV t.ls) false true)
    (hno : (movedR z (shiftR z t.ls)).2 ≠ 0 → K ((), (), (), ByteArray.mk #[], 0, ()) (movedR z (shiftR z t.ls)).2 (S z.ft) z.v t.has t.ex [] true true [] true true [] true true (TV z.ty) false true (RV z.tr) false true (RV z.lp) false true (TLV t.ls) false true) :
    Xright_moved (tupZ z) (TV z.ty) (RV z.tr) (RV z.lp) (S z.ft) z.v (TLV t.ls) t.has t.ex K := by
  unfold Xright_moved Yright_moved
  refine zCopy z hz.toZI fun f g i hg => ?_
  have hg' : 0 < z.tr.length → g = false := fun h => by
    cases g
    · rfl
    · rw [hg rfl] at h; simp at h
  have hti := hz.ti
  have htr := hz.tr
  unfold movedR at hok hno
  dsimp only
  rw [RV_len]
  refine lp_ind (fun x => z.tr.length - x.1.2.2.2.2.2.2.1.toNat) (fun x => ∃ j : Nat, j ≤ z.tr.length ∧ (∀ c ∈ z.tr.take j, (shiftR z t.ls c.1).2 = true) ∧
    x = ((((), (), (), ()), (), (), (0 : Int), (), (z.tr.length : Int), (j : Int), ()), tupZ z, tupB t, ((), (), (), S z.ft, z.v, ()), ((), (), (), ByteArray.mk #[], 0, ()), (TV z.ty, true, f), (RV (mixR (fun a => (shiftR z t.ls a).1) z.tr j), true, g), (RV z.lp, true, i), ())) ?_ ⟨0, by omega, by simp, by simp [mixR]; rfl⟩
  rintro x ⟨j, hj, hall, rfl⟩ k hk
  unfold Lright_moved_0
  dsimp only
  have lm := mix_len (fun a => (shiftR z t.ls a).1) z.tr j hj
  rw [RV_len, lm, Int.toNat_natCast]
  by_cases e : j < z.tr.length
  · rw [if_pos (decide_eq_true (by omega)), if_pos (by omega)]
    have hm : j < (mixR (fun a => (shiftR z t.ls a).1) z.tr j).length := by omega
    refine asR1 hm (asR2 hm ?_)
    rw [mix_get _ _ _ e hm]
    have hin : i64r (z.tr[j]).1 := (hti _ (List.getElem_mem e)).1
    unfold Xright_Compile_1 Yright_Compile_1
    refine sShift z hz t ht _ hin ?_
    cases hs : (shiftR z t.ls (z.tr[j]).1).2
    · rw [if_pos (by rfl)]
      have hna : ¬ (z.tr.all (fun c => (shiftR z t.ls c.1).2) = true) := fun hh => by
        have := List.all_eq_true.1 hh _ (List.getElem_mem e)
        rw [hs] at this; cases this
      rw [if_neg hna] at hno
      exact hno (by decide)
    · rw [if_neg (by simp), if_pos (by omega), if_pos (hg' (by omega)), if_pos (by omega), RV_set _ _ hm, mix_get _ _ _ e hm, mix_succ (fun a => (shiftR z t.ls a).1) z.tr j e]
      have w1 : w64 ((j : Int) + 1) = ((j + 1 : Nat) : Int) := by rw [w64_in (by omega) (by omega)]; omega
      rw [w1]
      refine hk _ ⟨j + 1, e, fun c hc => ?_, rfl⟩ (by show z.tr.length - Int.toNat ((j + 1 : Nat) : Int) < z.tr.length - Int.toNat (j : Int); omega)
      rw [List.take_succ_eq_append_getElem e, List.mem_append, List.mem_singleton] at hc
      rcases hc with hc | rfl
      · exact hall c hc
      · exact hs
  · have : j = z.tr.length := by omega
    subst this
    rw [if_neg (dneg (by omega))]
    rw [List.take_length] at hall
    have ha : z.tr.all (fun c => (shiftR z t.ls c.1).2) = true := List.all_eq_true.2 hall
    rw [if_pos ha] at hok hno
    rw [mix_end]
    clear hk lm
    have lM : (z.tr.map fun c => ((shiftR z t.ls c.1).1, c.2)).length = z.tr.length := by simp
    generalize hM : (z.tr.map fun c => ((shiftR z t.ls c.1).1, c.2)) = M at *
    refine lp_ind (fun x => M.length - x.1.2.2.2.2.1.toNat) (fun x => ∃ j : Nat, j ≤ M.length ∧ (∀ q (h : q + 1 < M.length), q + 1 < j → (M[q]).1 < (M[q + 1]).1) ∧
      x = (((), (), (0 : Int), (M.length : Int), (j : Int), ()), tupZ z, tupB t, ((), (), (), S z.ft, z.v, ()), ((), (), (), ByteArray.mk #[], 0, ()), (TV z.ty, true, f), (RV M, true, g), (RV z.lp, true, i), ())) ?_ ⟨0, by omega, by omega, by rw [lM]; rfl⟩
    rintro x ⟨j, hj, hall2, rfl⟩ k hk
    unfold Lright_moved_1
    dsimp only
    rw [RV_len]
    have w1 : w64 ((j : Int) + 1) = ((j + 1 : Nat) : Int) := by rw [w64_in (by omega) (by omega)]; omega
    by_cases e : j < M.length
    · rw [if_pos (decide_eq_true (by omega))]
      by_cases e0 : j = 0
      · rw [if_neg (dneg (by omega)), w1]
        exact hk _ ⟨j + 1, e, fun q h1 h2 => by omega, rfl⟩ (by show M.length - Int.toNat ((j + 1 : Nat) : Int) < M.length - Int.toNat (j : Int); omega)
      · have w2 : w64 ((j : Int) - 1) = ((j - 1 : Nat) : Int) := by rw [w64_in (by omega) (by omega)]; omega
        rw [if_pos (decide_eq_true (by omega)), if_pos (by omega), w2, Int.toNat_natCast, Int.toNat_natCast]
        refine asR1 e ?_
        have e1 : j - 1 < M.length := by omega
        rw [if_pos (by omega)]
        refine asR1 e1 ?_
        by_cases c : (M[j]).1 ≤ (M[j - 1]).1
        · rw [if_pos (decide_eq_true c)]
          have hnr : ¬ (rising M = true) := fun hh => by
            have := rising_get M hh (j - 1) (by omega)
            simp only [show j - 1 + 1 = j by omega] at this; omega
          rw [if_neg hnr] at hno
          exact hno (by decide)
        · rw [if_neg (dneg c), w1]
          refine hk _ ⟨j + 1, e, fun q h1 h2 => ?_, rfl⟩ (by show M.length - Int.toNat ((j + 1 : Nat) : Int) < M.length - Int.toNat (j : Int); omega)
          rcases Nat.lt_or_ge (q + 1) j with h3 | h3
          · exact hall2 q h1 h3
          · have : q = j - 1 := by omega
            subst this
            simp only [show j - 1 + 1 = j by omega]; omega
    · rw [if_neg (dneg (by omega))]
      have hr : rising M = true := rising_of M fun q h => hall2 q h (by omega)
      rw [if_pos hr] at hok
      exact hok rfl f g i
theorem sMoved_1 (z : Zn) (hz : ZR z) {K : _ → _ → _ → _ → _ → _ → _ → _ → _ → _ → _ → _ → _ → _ → _ → _ → _ → _ → _ → _ → _ → _ → Prop}
    (hok : (movedR z (subR z)).2 = 0 → ∀ f g i, K ((), (), (), S (movedR z (subR z)).1.ft, (movedR z (subR z)).1.v, ()) 0 (S z.ft) z.v (TV (movedR z (subR z)).1.ty) true f (RV (movedR z (subR z)).1.tr) true g (RV z.lp) true i (TV z.ty) false true (RV z.tr) false true (RV z.lp) false true )
    (hno : (movedR z (subR z)).2 ≠ 0 → K ((), (), (), ByteArray.mk #[], 0, ()) (movedR z (subR z)).2 (S z.ft) z.v [] true true [] true true [] true true (TV z.ty) false true (RV z.tr) false true (RV z.lp) false true ) :
    Xright_moved_1 (tupZ z) (TV z.ty) (RV z.tr) (RV z.lp) (S z.ft) z.v K := by
  unfold Xright_moved_1 Yright_moved_1
  refine zCopy z hz.toZI fun f g i hg => ?_
  have hg' : 0 < z.tr.length → g = false := fun h => by
    cases g
    · rfl
    · rw [hg rfl] at h; simp at h
  have hti := hz.ti
  have htr := hz.tr
  unfold movedR at hok hno
  dsimp only
  rw [RV_len]
  refine lp_ind (fun x => z.tr.length - x.1.2.2.2.2.2.2.1.toNat) (fun x => ∃ j : Nat, j ≤ z.tr.length ∧ (∀ c ∈ z.tr.take j, (subR z c.1).2 = true) ∧
    x = ((((), (), ()), (), (), (0 : Int), (), (z.tr.length : Int), (j : Int), ()), tupZ z, ((), (), (), S z.ft, z.v, ()), ((), (), (), ByteArray.mk #[], 0, ()), (TV z.ty, true, f), (RV (mixR (fun a => (subR z a).1) z.tr j), true, g), (RV z.lp, true, i), ())) ?_ ⟨0, by omega, by simp, by simp [mixR]; rfl⟩
  rintro x ⟨j, hj, hall, rfl⟩ k hk
  unfold Lright_moved_1_0
  dsimp only
  have lm := mix_len (fun a => (subR z a).1) z.tr j hj
  rw [RV_len, lm, Int.toNat_natCast]
  by_cases e : j < z.tr.length
  · rw [if_pos (decide_eq_true (by omega)), if_pos (by omega)]
    have hm : j < (mixR (fun a => (subR z a).1) z.tr j).length := by omega
    refine asR1 hm (asR2 hm ?_)
    rw [mix_get _ _ _ e hm]
    have hin : i64r (z.tr[j]).1 := (hti _ (List.getElem_mem e)).1
    unfold Xright_Strip_1 Yright_Strip_1
    have hss := sum_bd hz (z.tr[j]).1
    refine sSubR z hz (z.tr[j]).1 hin ?_
    cases hs : (subR z (z.tr[j]).1).2
    · rw [if_pos (by rfl)]
      have hna : ¬ (z.tr.all (fun c => (subR z c.1).2) = true) := fun hh => by
        have := List.all_eq_true.1 hh _ (List.getElem_mem e)
        rw [hs] at this; cases this
      rw [if_neg hna] at hno
      exact hno (by decide)
    · rw [if_neg (by simp), if_pos (by omega), if_pos (hg' (by omega)), if_pos (by omega), RV_set _ _ hm, mix_get _ _ _ e hm, mix_succ (fun a => (subR z a).1) z.tr j e]
      have w1 : w64 ((j : Int) + 1) = ((j + 1 : Nat) : Int) := by rw [w64_in (by omega) (by omega)]; omega
      rw [w1]
      refine hk _ ⟨j + 1, e, fun c hc => ?_, rfl⟩ (by show z.tr.length - Int.toNat ((j + 1 : Nat) : Int) < z.tr.length - Int.toNat (j : Int); omega)
      rw [List.take_succ_eq_append_getElem e, List.mem_append, List.mem_singleton] at hc
      rcases hc with hc | rfl
      · exact hall c hc
      · exact hs
  · have : j = z.tr.length := by omega
    subst this
    rw [if_neg (dneg (by omega))]
    rw [List.take_length] at hall
    have ha : z.tr.all (fun c => (subR z c.1).2) = true := List.all_eq_true.2 hall
    rw [if_pos ha] at hok hno
    rw [mix_end]
    clear hk lm
    have lM : (z.tr.map fun c => ((subR z c.1).1, c.2)).length = z.tr.length := by simp
    generalize hM : (z.tr.map fun c => ((subR z c.1).1, c.2)) = M at *
    refine lp_ind (fun x => M.length - x.1.2.2.2.2.1.toNat) (fun x => ∃ j : Nat, j ≤ M.length ∧ (∀ q (h : q + 1 < M.length), q + 1 < j → (M[q]).1 < (M[q + 1]).1) ∧
      x = (((), (), (0 : Int), (M.length : Int), (j : Int), ()), tupZ z, ((), (), (), S z.ft, z.v, ()), ((), (), (), ByteArray.mk #[], 0, ()), (TV z.ty, true, f), (RV M, true, g), (RV z.lp, true, i), ())) ?_ ⟨0, by omega, by omega, by rw [lM]; rfl⟩
    rintro x ⟨j, hj, hall2, rfl⟩ k hk
    unfold Lright_moved_1_1
    dsimp only
    rw [RV_len]
    have w1 : w64 ((j : Int) + 1) = ((j + 1 : Nat) : Int) := by rw [w64_in (by omega) (by omega)]; omega
    by_cases e : j < M.length
    · rw [if_pos (decide_eq_true (by omega))]
      by_cases e0 : j = 0
      · rw [if_neg (dneg (by omega)), w1]
        exact hk _ ⟨j + 1, e, fun q h1 h2 => by omega, rfl⟩ (by show M.length - Int.toNat ((j + 1 : Nat) : Int) < M.length - Int.toNat (j : Int); omega)
      · have w2 : w64 ((j : Int) - 1) = ((j - 1 : Nat) : Int) := by rw [w64_in (by omega) (by omega)]; omega
        rw [if_pos (decide_eq_true (by omega)), if_pos (by omega), w2, Int.toNat_natCast, Int.toNat_natCast]
        refine asR1 e ?_
        have e1 : j - 1 < M.length := by omega
        rw [if_pos (by omega)]
        refine asR1 e1 ?_
        by_cases c : (M[j]).1 ≤ (M[j - 1]).1
        · rw [if_pos (decide_eq_true c)]
          have hnr : ¬ (rising M = true) := fun hh => by
            have := rising_get M hh (j - 1) (by omega)
            simp only [show j - 1 + 1 = j by omega] at this; omega
          rw [if_neg hnr] at hno
          exact hno (by decide)
        · rw [if_neg (dneg c), w1]
          refine hk _ ⟨j + 1, e, fun q h1 h2 => ?_, rfl⟩ (by show M.length - Int.toNat ((j + 1 : Nat) : Int) < M.length - Int.toNat (j : Int); omega)
          rcases Nat.lt_or_ge (q + 1) j with h3 | h3
          · exact hall2 q h1 h3
          · have : q = j - 1 := by omega
            subst this
            simp only [show j - 1 + 1 = j by omega]; omega
    · rw [if_neg (dneg (by omega))]
      have hr : rising M = true := rising_of M fun q h => hall2 q h (by omega)
      rw [if_pos hr] at hok
      exact hok rfl f g i
theorem sCompile (z : Zn) (hz : ZI z) (t : Tb) (hl : t.ls.length ≤ 1000) {K : _ → _ → _ → _ → _ → _ → _ → _ → _ → _ → _ → Prop}
    (h : ∀ a b c d e f, K ((), (), (), S (compileR z t).1.ft, (compileR z t).1.v, ()) (compileR z t).2 (TV (compileR z t).1.ty) a b (RV (compileR z t).1.tr) c d (RV (compileR z t).1.lp) e f) : Xright_Compile (tupZ z) (tupB t) K := by
  unfold Xright_Compile Yright_Compile Xright_plain Yright_plain
  dsimp only
  have hlp : ((((tupZ z).2.2.1.length : Nat) : Int) == 0) = true ↔ z.lp = [] := by
    show (((RV z.lp).length : Int) == 0) = true ↔ _
    rw [RV_len, beq_iff_eq, ← List.length_eq_zero_iff]; omega
  unfold compileR at h
  have bad : ¬ ((z.lp = [] ∧ zoneRight z = true) ∧ rightT t = true) → K ((), (), (), ByteArray.mk #[], 0, ()) 1 [] true true [] true true [] true true := fun hn => by
    rw [if_pos hn] at h; exact h _ _ _ _ _ _
  by_cases e0 : z.lp = []
  · rw [if_pos (hlp.2 e0)]
    refine sRight z hz ?_
    cases hr : zoneRight z
    · rw [if_pos (by rfl)]; exact bad (by simp [hr])
    rw [if_neg (by simp)]
    refine kRightT t (by omega) ?_
    cases ht : rightT t
    · rw [if_pos (by rfl)]; exact bad (by simp [ht])
    rw [if_neg (by simp)]
    have hzr : ZR z := ⟨hz, hr⟩
    rw [if_neg (fun hh => hh ⟨⟨e0, hr⟩, ht⟩)] at h
    refine sRecords z hzr t ht fun o f => ?_
    by_cases e1 : (recordsR z t).2 = 0
    · rw [if_neg (by simp [e1])]
      rw [if_neg (by simp [e1])] at h
      refine sMoved z hzr t ht (fun q f' g i => ?_) fun q => ?_
      · rw [if_neg (by simp)]
        rw [if_neg (by simp [q])] at h
        cases hh : t.has
        · rw [if_neg (by simp)]
          rw [hh, if_neg (by simp)] at h
          exact h _ _ _ _ _ _
        · rw [if_pos rfl]
          rw [hh, if_pos rfl] at h
          exact h _ _ _ _ _ _
      · rw [if_pos (by simpa using q)]
        rw [if_pos q] at h
        exact h _ _ _ _ _ _
    · rw [if_pos (by simpa using e1)]
      rw [if_pos e1] at h
      exact h _ _ _ _ _ _
  · rw [if_neg (fun hh => e0 (hlp.1 hh)), if_pos (by rfl)]
    exact bad (by simp [e0])
theorem sStrip (z : Zn) (hz : ZI z) {K : _ → _ → _ → _ → _ → _ → _ → _ → _ → _ → _ → Prop}
    (h : ∀ a b c d e f, K ((), (), (), S (stripR z).1.ft, (stripR z).1.v, ()) (stripR z).2 (TV (stripR z).1.ty) a b (RV (stripR z).1.tr) c d (RV (stripR z).1.lp) e f) : Xright_Strip (tupZ z) K := by
  unfold Xright_Strip Yright_Strip
  refine sRight z hz ?_
  unfold stripR at h
  cases hr : zoneRight z
  · rw [if_pos (by rfl)]
    rw [hr, if_neg (by simp)] at h
    exact h _ _ _ _ _ _
  rw [if_neg (by simp)]
  rw [hr, if_pos rfl] at h
  have hzr : ZR z := ⟨hz, hr⟩
  refine sMoved_1 z hzr (fun q f' g i => ?_) fun q => ?_
  · rw [q] at h
    exact h _ _ _ _ _ _
  · have e : (movedR z (subR z)).1 = zn0 := by
      unfold movedR at q ⊢
      split at q
      · rename_i q1
        rw [if_pos q1]
        split at q
        · exact absurd rfl q
        · rename_i q2; rw [if_neg q2]
      · rename_i q1; rw [if_neg q1]
    rw [e] at h
    exact h _ _ _ _ _ _
theorem qSame12 (a b : List Rec) (hl : a.length ≤ 100000) {K : Bool → Prop} (h : K (a == b)) : Xepactref12_Same (RV a) (RV b) K := by
  unfold Xepactref12_Same Yepactref12_Same
  rw [RV_len, RV_len]
  by_cases e : a.length = b.length
  · rw [if_neg (by simp [e])]
    refine lp_ind (fun x => a.length - x.1.2.2.2.1.toNat) (fun x => ∃ j : Nat, j ≤ a.length ∧ x = ((RV a, RV b, false, (j : Int), ()), ()) ∧ a.take j = b.take j) ?_ ⟨0, by omega, rfl, rfl⟩
    rintro x ⟨j, hj, rfl, hall⟩ k hk
    unfold Lepactref12_Same_0
    simp only [decide_eq_true_eq, RV_len]
    by_cases ej : j = a.length
    · rw [if_neg (by omega)]
      rw [ej, List.take_length, e, List.take_length] at hall
      have : (a == b) = true := by rw [hall]; exact beq_self_eq_true _
      rw [this] at h; exact h
    · have h1 : j < a.length := by omega
      have h2 : j < b.length := by omega
      rw [Int.toNat_natCast, if_pos (by omega), if_pos (by omega)]
      refine asR1 h1 (asR2 h1 ?_)
      rw [if_pos (by omega)]
      refine asR1 h2 (asR2 h2 ?_)
      have e1 : w64 ((j : Int) + 1) = ((j + 1 : Nat) : Int) := by rw [w64_in (by omega) (by omega)]; omega
      simp only [e1]
      by_cases ee : a[j] = b[j]
      · rw [if_neg (by rw [ee]; simp)]
        refine hk _ ⟨j + 1, by omega, rfl, ?_⟩ ?_
        · rw [List.take_succ_eq_append_getElem h1, List.take_succ_eq_append_getElem h2, hall, ee]
        · show a.length - ((j + 1 : Nat) : Int).toNat < a.length - ((j : Nat) : Int).toNat
          omega
      · rw [if_pos (by
          simp only [Bool.not_eq_true', Bool.and_true, Bool.and_eq_false_iff, beq_eq_false_iff_ne, ne_eq]
          by_cases q : (a[j]).1 = (b[j]).1
          · exact .inr fun q2 => ee (Prod.ext q q2)
          · exact .inl q)]
        have : (a == b) = false := by
          rw [beq_eq_false_iff_ne]; intro hh; subst hh; exact ee rfl
        rw [this] at h; exact h
  · rw [if_pos (by simp; omega)]
    have : (a == b) = false := by
      rw [beq_eq_false_iff_ne]; intro hh; exact e (by rw [hh])
    rw [this] at h; exact h
theorem qSame16 (a b : Zn) (h1 : a.ty.length ≤ 100000) (h2 : a.tr.length ≤ 100000) (h3 : a.lp.length ≤ 100000) {K : Bool → Prop} (h : K (sameZ a b)) : Xepactref16_Same (tupZ a) (tupZ b) K := by
  show Xepactref16_Same (TV a.ty, RV a.tr, RV a.lp, S a.ft, a.v, ()) (TV b.ty, RV b.tr, RV b.lp, S b.ft, b.v, ()) K
  unfold Xepactref16_Same Yepactref16_Same
  dsimp only
  rw [TV_len, TV_len, RV_len, RV_len, S_toList, S_toList]
  have no : (a.ty ≠ b.ty ∨ a.tr ≠ b.tr ∨ a.ft ≠ b.ft ∨ a.v ≠ b.v) → K false := fun hn => by
    have : sameZ a b = false := by
      unfold sameZ
      simp only [Bool.and_eq_false_iff, beq_eq_false_iff_ne]
      rcases hn with hn | hn | hn | hn
      · exact .inl (.inl (.inl (.inl hn)))
      · exact .inl (.inl (.inl (.inr hn)))
      · exact .inl (.inr hn)
      · exact .inr hn
    rw [this] at h; exact h
  by_cases e1 : a.ty.length = b.ty.length
  · rw [if_neg (by simp [e1])]
    by_cases e2 : a.tr.length = b.tr.length
    · rw [if_neg (by simp [e2])]
      by_cases e3 : a.ft = b.ft
      · rw [if_neg (by simp [e3])]
        by_cases e4 : a.v = b.v
        · rw [if_neg (by simp [e4])]
          refine lp_ind (fun x => a.ty.length - x.1.2.2.2.1.toNat) (fun x => ∃ j : Nat, j ≤ a.ty.length ∧ x = (((), (), false, (j : Int), ()), (TV a.ty, RV a.tr, RV a.lp, S a.ft, a.v, ()), (TV b.ty, RV b.tr, RV b.lp, S b.ft, b.v, ()), ()) ∧ a.ty.take j = b.ty.take j) ?_ ⟨0, by omega, rfl, rfl⟩
          rintro x ⟨j, hj, rfl, hall⟩ k hk
          unfold Lepactref16_Same_0
          dsimp only
          rw [TV_len, TV_len, Int.toNat_natCast]
          by_cases ej : j = a.ty.length
          · rw [if_neg (dneg (by omega))]
            rw [ej, List.take_length, e1, List.take_length] at hall
            refine lp_ind (fun x => a.tr.length - x.1.2.2.2.1.toNat) (fun x => ∃ j : Nat, j ≤ a.tr.length ∧ x = (((), (), false, (j : Int), ()), (TV a.ty, RV a.tr, RV a.lp, S a.ft, a.v, ()), (TV b.ty, RV b.tr, RV b.lp, S b.ft, b.v, ()), ()) ∧ a.tr.take j = b.tr.take j) ?_ ⟨0, by omega, rfl, rfl⟩
            rintro x ⟨i, hi, rfl, hall2⟩ k2 hk2
            unfold Lepactref16_Same_1
            dsimp only
            rw [RV_len, RV_len, Int.toNat_natCast]
            by_cases ei : i = a.tr.length
            · rw [if_neg (dneg (by omega))]
              rw [ei, List.take_length, e2, List.take_length] at hall2
              refine qSame12 a.lp b.lp h3 ?_
              have : sameZ a b = (a.lp == b.lp) := by unfold sameZ; rw [hall, hall2, e3, e4]; simp
              rw [this] at h; exact h
            · have h1 : i < a.tr.length := by omega
              have h2 : i < b.tr.length := by omega
              rw [if_pos (decide_eq_true (by omega)), if_pos (by omega)]
              refine asR1 h1 (asR2 h1 ?_)
              rw [if_pos (by omega)]
              refine asR1 h2 (asR2 h2 ?_)
              have e1 : w64 ((i : Int) + 1) = ((i + 1 : Nat) : Int) := by rw [w64_in (by omega) (by omega)]; omega
              simp only [e1]
              by_cases ee : a.tr[i] = b.tr[i]
              · rw [if_neg (by rw [ee]; simp)]
                refine hk2 _ ⟨i + 1, by omega, rfl, ?_⟩ ?_
                · rw [List.take_succ_eq_append_getElem h1, List.take_succ_eq_append_getElem h2, hall2, ee]
                · show a.tr.length - ((i + 1 : Nat) : Int).toNat < a.tr.length - ((i : Nat) : Int).toNat
                  omega
              · rw [if_pos (by
                  simp only [Bool.not_eq_true', Bool.and_true, Bool.and_eq_false_iff, beq_eq_false_iff_ne, ne_eq]
                  by_cases q : (a.tr[i]).1 = (b.tr[i]).1
                  · exact .inr fun q2 => ee (Prod.ext q q2)
                  · exact .inl q)]
                refine no (.inr (.inl fun hh => ?_))
                have := congrArg (fun l => l[i]?) hh
                simp only [List.getElem?_eq_getElem h1, List.getElem?_eq_getElem h2] at this
                exact ee (Option.some.inj this)
          · have h1 : j < a.ty.length := by omega
            have h2 : j < b.ty.length := by omega
            rw [if_pos (decide_eq_true (by omega)), if_pos (by omega)]
            refine asT1 h1 (asT2 h1 (asT3 h1 ?_))
            rw [if_pos (by omega)]
            refine asT1 h2 (asT2 h2 (asT3 h2 ?_))
            have e1 : w64 ((j : Int) + 1) = ((j + 1 : Nat) : Int) := by rw [w64_in (by omega) (by omega)]; omega
            simp only [lt, e1, S_toList]
            by_cases ee : a.ty[j] = b.ty[j]
            · rw [if_neg (by rw [ee]; simp)]
              refine hk _ ⟨j + 1, by omega, rfl, ?_⟩ ?_
              · rw [List.take_succ_eq_append_getElem h1, List.take_succ_eq_append_getElem h2, hall, ee]
              · show a.ty.length - ((j + 1 : Nat) : Int).toNat < a.ty.length - ((j : Nat) : Int).toNat
                omega
            · have : (!((a.ty[j]).1 == (b.ty[j]).1 && ((a.ty[j]).2.1 == (b.ty[j]).2.1 && ((a.ty[j]).2.2 == (b.ty[j]).2.2 && true)))) = true := by
                rw [Bool.not_eq_true']
                cases hh : ((a.ty[j]).1 == (b.ty[j]).1 && ((a.ty[j]).2.1 == (b.ty[j]).2.1 && ((a.ty[j]).2.2 == (b.ty[j]).2.2 && true)))
                · rfl
                · exfalso
                  simp only [Bool.and_eq_true, beq_iff_eq, and_true] at hh
                  exact ee (Prod.ext hh.1 (Prod.ext hh.2.1 hh.2.2))
              rw [if_pos this]
              refine no (.inl fun hh => ?_)
              have := congrArg (fun l => l[j]?) hh
              simp only [List.getElem?_eq_getElem h1, List.getElem?_eq_getElem h2] at this
              exact ee (Option.some.inj this)
        · rw [if_pos (by simpa using e4)]; exact no (.inr (.inr (.inr e4)))
      · rw [if_pos (by simpa using e3)]; exact no (.inr (.inr (.inl e3)))
    · rw [if_pos (by simp; omega)]; exact no (.inr (.inl fun hh => e2 (by rw [hh])))
  · rw [if_pos (by simp; omega)]; exact no (.inl fun hh => e1 (by rw [hh]))
end Go.Proofs.YtenaflbcnkalbaaGreatDoor
end
section
set_option linter.unusedVariables false
set_option linter.unusedSimpArgs false
namespace Go.Proofs.YtenaflbcnkalbaaGreatDoor
open Go Go.Proofs.YtenaflbcnkalbaaGreatDoor.Eng Go.Proofs.YtenaflbcnkalbaaGreatDoor.Pl
set_option linter.unusedVariables false
set_option linter.unusedSimpArgs false
set_option maxRecDepth 100000
set_option maxHeartbeats 4000000
def rTy : List Ty := [(-18000, false, [69, 83, 84]), (-14400, true, [69, 68, 84])]
def rZ : Zn := ⟨rTy, [(5, 1), (78796799, 0), (78796801, 1), (100000000, 0)], [], [], 2⟩
def rX : Zn := ⟨rTy, [(5, 1), (78796799, 0), (78796801, 1), (100000000, 0)], [], [], 4⟩
def rY : Zn := ⟨rTy, [(5, 1), (78796799, 0), (78796802, 1), (100000002, 0)], [(78796800, 1), (94694401, 2), (200000002, 2)], [], 4⟩
def rW : Zn := ⟨rTy, [(78796799, 0), (78796800, 1)], [], [], 2⟩
def rT : Tb := ⟨[(911, 1, false), (1095, 1, false)], true, 200000000⟩
def rU : Tb := ⟨[(911, 1, true)], false, 0⟩
def rV : Tb := ⟨[(911, -1, false)], false, 0⟩
theorem iZ : ZI rZ := ⟨by decide, by decide, by decide, by decide, by decide, by unfold recI; decide, by unfold recI; decide, by decide⟩
theorem iY : ZI rY := ⟨by decide, by decide, by decide, by decide, by decide, by unfold recI; decide, by unfold recI; decide, by decide⟩
theorem iW : ZI rW := ⟨by decide, by decide, by decide, by decide, by decide, by unfold recI; decide, by unfold recI; decide, by decide⟩
theorem rzZ : ZR rZ := ⟨iZ, by kernel_rfl⟩
theorem sCompileAt (z : Zn) (hz : ZI z) (t : Tb) (r : Zn × Int) (e : compileR z t = r) (hl : Nat.ble t.ls.length 1000 = true) {K : _ → _ → _ → _ → _ → _ → _ → _ → _ → _ → _ → Prop}
    (h : ∀ a b c d e f, K ((), (), (), S r.1.ft, r.1.v, ()) r.2 (TV r.1.ty) a b (RV r.1.tr) c d (RV r.1.lp) e f) : Xright_Compile (tupZ z) (tupB t) K := by
  subst e; exact sCompile z hz t (Nat.le_of_ble_eq_true hl) h
theorem sStripAt (z : Zn) (hz : ZI z) (r : Zn × Int) (e : stripR z = r) {K : _ → _ → _ → _ → _ → _ → _ → _ → _ → _ → _ → Prop}
    (h : ∀ a b c d e f, K ((), (), (), S r.1.ft, r.1.v, ()) r.2 (TV r.1.ty) a b (RV r.1.tr) c d (RV r.1.lp) e f) : Xright_Strip (tupZ z) K := by
  subst e; exact sStrip z hz h
theorem sRecordsAt (z : Zn) (hz : ZR z) (t : Tb) (ht : rightT t = true) (r : List Rec × Int) (e : recordsR z t = r) {K : Int → List V → Bool → Bool → Prop} (h : ∀ o f, K r.2 (RV r.1) o f) : Xright_Records (tupZ z) (tupB t) K := by
  subst e; exact sRecords z hz t ht h
theorem sShiftAt (z : Zn) (hz : ZR z) (t : Tb) (ht : rightT t = true) (p : Int) (hp : i64r p) (r : Int × Bool) (e : shiftR z t.ls p = r) {K : Int → Bool → Prop} (h : K r.1 r.2) : Xright_Shift (tupZ z) (tupB t) p K := by
  subst e; exact sShift z hz t ht p hp h
theorem rsmall {K : Bool → Prop} (h : K true) : Xepactlaw21_small K := by
  rw [Xepactlaw21_small, Yepactlaw21_small]
  refine sCompileAt rZ iZ rT (rY, 0) (by kernel_rfl) (by kernel_rfl) fun a1 a2 a3 a4 a5 a6 => ?_
  refine sStripAt rY iY (rX, 0) (by kernel_rfl) fun b1 b2 b3 b4 b5 b6 => ?_
  rw [if_neg (show ¬ ((((RV rY.tr).length : Nat) : Int) != 4) = true by rw [RV_len]; decide), if_neg (show ¬ ((((RV rY.lp).length : Nat) : Int) != 3) = true by rw [RV_len]; decide)]
  refine sRecordsAt rZ rzZ rU (by kernel_rfl) ([(78814800, 1)], 0) (by kernel_rfl) fun c1 c2 => ?_
  refine sShiftAt rZ rzZ rT (by kernel_rfl) 78796800 (by unfold i64r; decide) (78796801, true) (by kernel_rfl) ?_
  refine sCompileAt rY iY rT (zn0, 1) (by kernel_rfl) (by kernel_rfl) fun d1 d2 d3 d4 d5 d6 => ?_
  refine sCompileAt rW iW rV (zn0, 4) (by kernel_rfl) (by kernel_rfl) fun e1 e2 e3 e4 e5 e6 => ?_
  refine sShiftAt rZ rzZ rT (by kernel_rfl) 9223372036854775807 (by unfold i64r; decide) (0, false) (by kernel_rfl) ?_
  have l4 : (RV rY.tr).length = 4 := by rw [RV_len]; decide
  have l3 : (RV rY.lp).length = 3 := by rw [RV_len]; decide
  simp only [l4, l3]
  rw [if_pos (by decide), if_pos (by decide)]
  refine asR1 (l := rY.tr) (i := 0) (by decide) ?_
  rw [if_pos (by decide), if_pos (by decide)]
  refine asR1 (l := rY.tr) (i := 1) (by decide) ?_
  rw [if_pos (by decide), if_pos (by decide)]
  refine asR1 (l := rY.tr) (i := 2) (by decide) ?_
  rw [if_pos (by decide), if_pos (by decide)]
  refine asR1 (l := rY.tr) (i := 3) (by decide) ?_
  rw [if_pos (by decide), if_pos (by decide), if_pos (by decide)]
  refine asR1 (l := rY.lp) (i := 2) (by decide) (asR2 (l := rY.lp) (i := 2) (by decide) ?_)
  rw [if_pos (by decide), if_pos (by decide)]
  refine qSame16 rZ rZ (by decide) (by decide) (by decide) ?_
  rw [if_pos (by kernel_rfl)]
  refine sInst rZ rzZ (911, 1, true) (by decide) ?_
  rw [show instR rZ (911, 1, true) = 78814800 by kernel_rfl, if_pos (by decide), if_pos (by decide)]
  refine qSame12 [(78814800, 1)] [(78814800, 1)] (by decide) ?_
  rw [if_pos (by decide), if_pos (by decide), if_pos trivial, if_pos (by decide), if_pos (by decide)]
  exact h
theorem no_leaps (z : Zn) : (tupZ z).2.2.1.length = z.lp.length := RV_len z.lp
end Go.Proofs.YtenaflbcnkalbaaGreatDoor
end
section
set_option linter.unusedVariables false
set_option linter.unusedSimpArgs false
namespace Go.Proofs.YtenaflbcnkalbaaGreatDoor
open Go Go.Proofs.YtenaflbcnkalbaaGreatDoor.Eng Go.Proofs.YtenaflbcnkalbaaGreatDoor.Pl
set_option linter.unusedVariables false
set_option linter.unusedSimpArgs false
set_option maxRecDepth 100000
set_option maxHeartbeats 4000000
theorem TLV_cut (l : List LR) (a n : Nat) : cutL (TLV l) a n = TLV ((l.drop a).take n) := by simp [cutL, TLV]
theorem part_right {t : Tb} (h : rightT t = true) (k : Nat) : rightT ⟨t.ls.take k, false, 0⟩ = true := by
  refine right_of ?_ (expB_no _)
  have := (right_0 h).1
  rw [← List.take_append_drop k t.ls] at this
  exact checkG_app _ _ _ _ this
theorem lRightCuts (z : Zn) (hg : ZG z) (t : Tb) (k : Int) (p : Int) (hp : i64r p) {K : Bool → Prop} (h : K true) : Xepactlaw21_RightCuts (tupZ z) (tupB t) k p K := by
  rw [Xepactlaw21_RightCuts, Yepactlaw21_RightCuts]
  refine rsmall (sFew z hg.tl (fun hf => ?_) ?_)
  rotate_left
  · unfold Xepactlaw09_Few Yepactlaw09_Few
    dsimp only
    rw [if_pos (by rfl)]; exact h
  unfold Xepactlaw09_Few Yepactlaw09_Few
  dsimp only
  rw [if_neg (by simp), TLV_len]
  by_cases e1 : ((t.ls.length : Nat) : Int) ≤ 300
  rotate_left
  · rw [if_pos (by simp; omega)]; exact h
  rw [if_neg (by simp; omega)]
  have hz := hg.zi hf
  refine sRight z hz ?_
  cases hr : zoneRight z
  · rw [if_pos (by rfl)]; exact h
  have hzr : ZR z := ⟨hz, hr⟩
  rw [if_neg (by simp), no_leaps]
  by_cases e2 : ((z.lp.length : Nat) : Int) > 0
  · rw [if_pos (decide_eq_true e2)]; exact h
  rw [if_neg (dneg e2)]
  refine kRightT t (by omega) ?_
  cases ht : rightT t
  · rw [if_pos (by rfl)]; exact h
  rw [if_neg (by simp)]
  by_cases e3 : k < 0
  · rw [if_pos (decide_eq_true e3)]; exact h
  rw [if_neg (dneg e3)]
  by_cases e4 : k ≥ ((t.ls.length : Nat) : Int)
  · rw [if_pos (decide_eq_true e4)]; exact h
  rw [if_neg (dneg e4)]
  by_cases e5 : p < -576460752303423488
  · rw [if_pos (decide_eq_true e5)]; exact h
  rw [if_neg (dneg e5), if_pos (by omega)]
  obtain ⟨k, rfl⟩ : ∃ n : Nat, k = (n : Int) := ⟨k.toNat, by omega⟩
  have hk : k < t.ls.length := by omega
  rw [Int.toNat_natCast]
  refine asL1 hk (asL2 hk (asL3 hk ?_))
  have hd := right_rng ht _ (List.getElem_mem hk)
  refine sInst z hzr t.ls[k] (by omega) ?_
  by_cases e6 : p ≥ instR z t.ls[k]
  · rw [if_pos (decide_eq_true e6)]; exact h
  rw [if_neg (dneg e6), if_pos (by omega), if_pos (by omega), TLV_cut, List.drop_zero, Nat.sub_zero]
  have hoff := right_off hr
  have hi := inst_pos hoff ht _ (List.getElem_mem hk)
  have hst := right_steps ht
  have hlen := right_len ht
  have hp' : -1152921504606846976 ≤ p ∧ p ≤ 1152921504606846976 := by omega
  have hpr := part_right ht k
  have hcut := shift_cut hoff ht hk (p := p) (by omega)
  have hr2 : shiftR z (t.ls.take k) p = (p + shiftS z t.ls p, true) := by
    rw [shiftR_ok z (fun l hl => hst l (List.mem_of_mem_take hl)) (by simp; omega) hp', hcut]
  refine sShiftAt z hzr t ht p hp _ (shiftR_ok z hst (by omega) hp') ?_
  refine sShiftAt z hzr ⟨t.ls.take k, false, 0⟩ hpr p hp _ hr2 ?_
  refine sRecords z hzr t ht fun o f => ?_
  refine sRecords z hzr ⟨t.ls.take k, false, 0⟩ hpr fun o' f' => ?_
  by_cases e7 : (recordsR z t).2 = 0
  · have ro : recE (recAll z t) = 0 ∧ (recordsR z t).1 = recAll z t := by
      unfold recordsR at e7 ⊢
      split
      · rename_i hh; exact ⟨hh, rfl⟩
      · rename_i hh; rw [if_neg hh] at e7; exact absurd e7 hh
    obtain ⟨r1, r2⟩ := records_cut ht hk ro.1
    have ep : recordsR z ⟨t.ls.take k, false, 0⟩ = ((recAll z t).take k, 0) := by
      unfold recordsR; rw [if_pos r1, r2]
    have hal := recAll_len z t
    rw [ep, if_pos (by simp [e7]), if_neg (by simp), ro.2, RV_len, if_neg (dneg (by omega)), if_pos (by omega), if_pos (by omega), RV_cut, List.drop_zero]
    unfold Xrecord_Same Yrecord_Same
    refine sEqR2 _ _ (by simp; omega) (by simp; omega) ?_
    dsimp only
    rw [beq_self_eq_true, if_neg (show ¬ ((!true) = true) by simp), if_pos rfl, if_pos rfl, if_pos rfl]
    simpa using h
  · rw [if_neg (by simpa using e7), if_pos rfl, if_pos rfl, if_pos rfl]
    simpa using h
end Go.Proofs.YtenaflbcnkalbaaGreatDoor
end
section
set_option linter.unusedVariables false
set_option linter.unusedSimpArgs false
namespace Go.Proofs.YtenaflbcnkalbaaGreatDoor
open Go Go.Proofs.YtenaflbcnkalbaaGreatDoor.Eng Go.Proofs.YtenaflbcnkalbaaGreatDoor.Pl
set_option linter.unusedVariables false
set_option linter.unusedSimpArgs false
theorem wfI {n : Int} (h : (Lit.int .i64 n).wf = true) : i64r n := by
  simp [Lit.wf, IntKind.min, IntKind.max, IntKind.bits, IntKind.signed] at h
  unfold i64r; omega
theorem zone_of (tys : List (Int × Bool × ByteArray × Unit)) (trs lps : List (Int × Int × Unit)) (ft : ByteArray) (v : Int) (h1 : tys.length ≤ 9223372036854775807)
    (h2 : ∀ c ∈ trs, (Lit.int .i64 c.1).wf = true ∧ (Lit.int .i64 c.2.1).wf = true ∧ True) (h3 : ∀ c ∈ lps, (Lit.int .i64 c.1).wf = true ∧ (Lit.int .i64 c.2.1).wf = true ∧ True) (h4 : (Lit.int .i64 v).wf = true) :
    ∃ z, ZG z ∧ ((tys.map fun x => V.agg [.c (.int .i64 x.1), .c (.bool x.2.1), .c (.string x.2.2.1)], trs.map fun x => V.agg [.c (.int .i64 x.1), .c (.int .i64 x.2.1)], lps.map fun x => V.agg [.c (.int .i64 x.1), .c (.int .i64 x.2.1)], ft, v, ()) : List V × List V × List V × ByteArray × Int × Unit) = tupZ z := by
  have rcI : ∀ l : List (Int × Int × Unit), (∀ c ∈ l, (Lit.int .i64 c.1).wf = true ∧ (Lit.int .i64 c.2.1).wf = true ∧ True) → recI (l.map fun c => (c.1, c.2.1)) := fun l hl c hc => by
    obtain ⟨d, hd, rfl⟩ := List.mem_map.1 hc
    exact ⟨wfI (hl d hd).1, wfI (hl d hd).2.1⟩
  refine ⟨⟨tys.map fun t => (t.1, t.2.1, t.2.2.1.data.toList), trs.map fun c => (c.1, c.2.1), lps.map fun c => (c.1, c.2.1), ft.data.toList, v⟩, ⟨rcI lps h3, rcI trs h2, wfI h4, by simpa using h1⟩, ?_⟩
  unfold tupZ
  simp only [List.map_map]
  rfl
abbrev akZ : AK := (.st (.cons (.sl (.st (.cons (.int .i64) (.cons .bool (.cons .str .nil))))) (.cons (.sl (.st (.cons (.int .i64) (.cons (.int .i64) .nil)))) (.cons (.sl (.st (.cons (.int .i64) (.cons (.int .i64) .nil)))) (.cons .str (.cons (.int .i64) .nil))))))
theorem zone_in (a : akZ.T) (h : akZ.good a) : ∃ z, ZG z ∧ (akZ.DV a : List V × List V × List V × ByteArray × Int × Unit) = tupZ z := by
  obtain ⟨tys, trs, lps, ft, v, u⟩ := a
  obtain ⟨h1, h2, h3, h4, h5, h6⟩ := h
  exact zone_of tys trs lps ft v h1.1 h2.2 h3.2 h5
end Go.Proofs.YtenaflbcnkalbaaGreatDoor
end
section
set_option linter.unusedVariables false
set_option linter.unusedSimpArgs false
namespace Go.Proofs.YtenaflbcnkalbaaGreatDoor
open Go Go.Proofs.YtenaflbcnkalbaaGreatDoor.Eng Go.Proofs.YtenaflbcnkalbaaGreatDoor.Pl
set_option linter.unusedVariables false
set_option linter.unusedSimpArgs false
abbrev akT : AK := (.st (.cons (.sl (.st (.cons (.int .i64) (.cons (.int .i64) (.cons .bool .nil))))) (.cons .bool (.cons (.int .i64) .nil))))
theorem wfT {n : Int} (h : (Lit.int .i64 n).wf = true) : -9223372036854775808 ≤ n ∧ n ≤ 9223372036854775807 := by
  simp [Lit.wf, IntKind.min, IntKind.max, IntKind.bits, IntKind.signed] at h
  omega
theorem table_of (ls : List (Int × Int × Bool × Unit)) (has : Bool) (ex : Int) (h1 : ls.length ≤ 9223372036854775807) (h3 : (Lit.int .i64 ex).wf = true) :
    ∃ t : Tb, ((ls.map fun x => V.agg [.c (.int .i64 x.1), .c (.int .i64 x.2.1), .c (.bool x.2.2.1)], has, ex, ()) : List V × Bool × Int × Unit) = (TLV t.ls, t.has, t.ex, ()) ∧ (-9223372036854775808 ≤ t.ex ∧ t.ex ≤ 9223372036854775807) ∧ t.ls.length ≤ 9223372036854775807 := by
  refine ⟨⟨ls.map fun x => (x.1, x.2.1, x.2.2.1), has, ex⟩, ?_, wfT h3, by simpa using h1⟩
  unfold TLV
  rw [List.map_map]; rfl
theorem table_in (a : akT.T) (h : akT.good a) : ∃ t : Tb, (akT.DV a : List V × Bool × Int × Unit) = (TLV t.ls, t.has, t.ex, ()) ∧ (-9223372036854775808 ≤ t.ex ∧ t.ex ≤ 9223372036854775807) ∧ t.ls.length ≤ 9223372036854775807 := by
  obtain ⟨ls, has, ex, u⟩ := a
  obtain ⟨h1, h2, h3, h4⟩ := h
  exact table_of ls has ex h1.1 h3
end Go.Proofs.YtenaflbcnkalbaaGreatDoor
end
section
set_option linter.unusedVariables false
set_option linter.unusedSimpArgs false
namespace Go.Proofs.YtenaflbcnkalbaaGreatDoor
open Go Go.Proofs.YtenaflbcnkalbaaGreatDoor.Eng Go.Proofs.YtenaflbcnkalbaaGreatDoor.Pl
theorem pureRightCuts : PureRightCuts := by
  intro a0 h0 a1 h1 a2 h2 a3 h3
  obtain ⟨z, hz, e⟩ := zone_in a0 h0
  obtain ⟨t, e', hx, _⟩ := table_in a1 h1
  rw [show (akRightCuts0.DV a0 : List V × List V × List V × ByteArray × Int × Unit) = tupZ z from e, show (akRightCuts1.DV a1 : List V × Bool × Int × Unit) = tupB t from e']
  exact lRightCuts z hz t _ _ (wfI h3) rfl
end Go.Proofs.YtenaflbcnkalbaaGreatDoor
end
