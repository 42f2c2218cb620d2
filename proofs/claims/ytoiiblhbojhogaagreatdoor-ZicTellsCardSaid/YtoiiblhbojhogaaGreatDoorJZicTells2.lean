/- What the functions come to in plain data, with proofs, and what that answers. -/
import Derived.Test.YtoiiblhbojhogaaGreatDoorJZicTells1
section
set_option linter.unusedVariables false
set_option linter.unusedSimpArgs false
namespace Go.Proofs.YtoiiblhbojhogaaGreatDoor
open Go Go.Proofs.YtoiiblhbojhogaaGreatDoor.Eng Go.Proofs.YtoiiblhbojhogaaGreatDoor.Pl
set_option linter.unusedVariables false
set_option linter.unusedSimpArgs false
set_option maxRecDepth 100000
set_option maxHeartbeats 2000000

theorem kStClock (x : Int) (h0 : 0 ≤ x) (h1 : x < 86400) {K} (h : K (x / 3600) (x / 60 % 60) (x % 60) true) : Xstamp_Clock x K := by
  unfold Xstamp_Clock Ystamp_Clock
  simp only [decide_eq_true_eq, beq_iff_eq]
  rw [if_neg (by omega), if_neg (by omega), if_neg (by omega), Int.tdiv_eq_ediv_of_nonneg h0, Int.tdiv_eq_ediv_of_nonneg h0, Int.tmod_eq_emod_of_nonneg h0,
    w64_in (by omega) (by omega), w64_in (by omega) (by omega), Int.tmod_eq_emod_of_nonneg (by omega)]
  exact h
/-- Numbers laid into a form, from its end. -/
def fillR : List UInt8 → List Int → List UInt8
  | [], _ => []
  | c :: r, ns => if c = 48 then UInt8.ofNat (48 + (ns.headD 0 % 10).toNat) :: fillR r (ns.headD 0 / 10 :: ns.tail) else c :: fillR r ns.tail
def fillL (f : List UInt8) (ns : List Int) : List UInt8 := (fillR f.reverse ns.reverse).reverse
def IV (ns : List Int) : List V := ns.map fun n => .c (.int .i64 n)
theorem IV_len (ns : List Int) : (IV ns).length = ns.length := by simp [IV]
theorem asIV {ns : List Int} {i : Nat} (h : i < ns.length) {F : Prop} {K : Int → Prop} (hk : K ns[i]) : Eng.asInt .i64 (getC (IV ns) i 0) F K := by
  have : getC (IV ns) i 0 = some (.c (.int .i64 ns[i])) := by simp [getC, IV, V.cells, h]
  rw [this]; simpa [Eng.asInt] using hk
theorem IV_set (ns : List Int) (i : Nat) (h : i < ns.length) (x : Int) : List.set (IV ns) i (Eng.setE (List.getD (IV ns) i Eng.V.bad) 0 [.c (.int .i64 x)]) = IV (ns.set i x) := by
  have : List.getD (IV ns) i Eng.V.bad = .c (.int .i64 ns[i]) := by simp [IV, List.getD, h]
  rw [this]
  show List.set (IV ns) i (.c (.int .i64 x)) = _
  simp [IV, List.map_set]
theorem B8_set (l : List UInt8) (i : Nat) (h : i < l.length) (x : UInt8) : List.set (B8 l) i (Eng.setE (List.getD (B8 l) i Eng.V.bad) 0 [.c (.int .u8 (x.toNat : Int))]) = B8 (l.set i x) := by
  have : List.getD (B8 l) i Eng.V.bad = .c (.int .u8 (l[i].toNat : Int)) := by simp [B8, List.getD, h]
  rw [this]
  show List.set (B8 l) i (.c (.int .u8 (x.toNat : Int))) = _
  simp [B8, List.map_set]
theorem kFill (f : List UInt8) (ns : List Int) (hf : f.length ≤ 1000) (hn : ns.length ≤ 1000) (h0 : ∀ n ∈ ns, 0 ≤ n ∧ n ≤ 9223372036854775807) (hc : (f.filter (· ≠ 48)).length < ns.length) {K} (h : K (S (fillL f ns))) : Xstamp_fill (S f) (IV ns) true false K := by
  unfold Xstamp_fill Ystamp_fill
  rw [bytesV_S, B8_len, IV_len]
  have w1 : w64 ((ns.length : Int) - 1) = ((ns.length : Nat) : Int) - 1 := w64_in (by omega) (by omega)
  have w2 : w64 ((f.length : Int) - 1) = ((f.length : Nat) : Int) - 1 := w64_in (by omega) (by omega)
  rw [w1, w2]
  refine lp_ind (fun x => (x.1.2.2.2.2.1 + 1).toNat) (fun x => ∃ (p : Nat) (k : Int) (ms : List Int) (bs : List UInt8), p ≤ f.length ∧ bs.length = f.length ∧ bs.take p = f.take p ∧ ms.length = ns.length ∧ k < ms.length ∧
    (∀ n ∈ ms, 0 ≤ n ∧ n ≤ 9223372036854775807) ∧ (((f.take p).filter (· ≠ 48)).length : Int) ≤ k ∧ (fillR (f.take p).reverse (ms.take (k + 1).toNat).reverse).reverse ++ bs.drop p = fillL f ns ∧
    x = (((), ByteArray.mk #[], (), k, (p : Int) - 1, ()), (IV ms, true, false), B8 bs, ())) ?_
    ⟨f.length, (ns.length : Int) - 1, ns, f, Nat.le_refl _, rfl, rfl, rfl, by omega, h0, by rw [List.take_length]; omega, by rw [List.take_length, show ((ns.length : Int) - 1 + 1).toNat = ns.length by omega, List.take_length]; simp [fillL], rfl⟩
  rintro x ⟨p, k, ms, bs, hp, hb, hbt, hm, hk, hz, hcnt, hres, rfl⟩ kk hkk
  unfold Lstamp_fill_0
  simp only [decide_eq_true_eq, B8_len, IV_len]
  cases p with
  | zero =>
    rw [if_neg (by omega), if_pos (B8_all _), B8_pack]
    have : bs = fillL f ns := by simpa [fillR] using hres
    rw [this]; exact h
  | succ p =>
    have hpf : p < f.length := by omega
    have e1 : ((p + 1 : Nat) : Int) - 1 = (p : Int) := by omega
    have hbp : bs[p]'(by omega) = f[p] := by
      have h1 := congrArg (fun l => l[p]?) hbt
      simpa [List.getElem?_take, hpf, show p < bs.length by omega] using h1
    rw [e1, if_pos (by omega), if_pos (by omega)]
    simp only [Int.toNat_natCast]
    refine asB8 (by omega) ?_
    rw [hbp]
    have hrev : (f.take (p + 1)).reverse = f[p] :: (f.take p).reverse := by rw [List.take_succ_eq_append_getElem hpf]; simp
    rw [hrev, fillR] at hres
    have hbd : bs.take p = f.take p := by
      have := congrArg (List.take p) hbt
      simpa [List.take_take, Nat.min_eq_left (Nat.le_succ p)] using this
    have w3 : w64 ((p : Int) - 1) = (p : Int) - 1 := w64_in (by omega) (by omega)
    rw [List.take_succ_eq_append_getElem hpf, List.filter_append] at hcnt
    by_cases hd : f[p] = 48
    · have hne : ¬ (((f[p].toNat : Int) != 48) = true) := by rw [hd]; decide
      rw [if_pos hd] at hres
      have hk0 : 0 ≤ k := by omega
      have hkm : k.toNat < ms.length := by omega
      rw [if_neg hne, if_pos (by omega)]
      refine asB8 (by omega) ?_
      rw [hbp, if_pos (by omega)]
      refine asIV hkm ?_
      simp only [lt]
      rw [if_pos (by omega), if_pos (by omega), if_pos (by omega)]
      refine asIV hkm ?_
      rw [if_pos (by omega), if_pos trivial, if_pos hkm, w3]
      obtain ⟨z0, z1⟩ := hz _ (List.getElem_mem hkm)
      have t1 : Int.tmod ms[k.toNat] 10 = ms[k.toNat] % 10 := Int.tmod_eq_emod_of_nonneg z0
      have t2 : w64 (Int.tdiv ms[k.toNat] 10) = ms[k.toNat] / 10 := by rw [Int.tdiv_eq_ediv_of_nonneg z0, w64_in (by omega) (by omega)]
      have t3 : wu8 ((f[p].toNat : Int) + wu8 (Int.tmod ms[k.toNat] 10)) = ((UInt8.ofNat (48 + (ms[k.toNat] % 10).toNat)).toNat : Int) := by
        rw [t1, hd, wu8_in (n := ms[k.toNat] % 10) (by omega) (by omega), wu8_in (by simp; omega) (by simp; omega)]
        simp; omega
      rw [t2, t3, IV_set _ _ hkm, B8_set _ _ (by omega)]
      have htk : (ms.take (k + 1).toNat).reverse = ms[k.toNat] :: (ms.take k.toNat).reverse := by
        rw [show (k + 1).toNat = k.toNat + 1 by omega, List.take_succ_eq_append_getElem hkm]; simp
      rw [htk] at hres
      refine hkk _ ⟨p, k, ms.set k.toNat (ms[k.toNat] / 10), bs.set p (UInt8.ofNat (48 + (ms[k.toNat] % 10).toNat)), by omega, by simpa using hb, ?_, by simpa using hm, by simpa using hk, fun n hn => ?_, by rw [hd] at hcnt; simpa using hcnt, ?_, by rfl⟩ (by dsimp only; omega)
      · rw [List.take_set_of_le (Nat.le_refl p)]; exact hbd
      · rcases List.mem_or_eq_of_mem_set hn with hn | rfl
        · exact hz n hn
        · omega
      · have e2 : ((ms.set k.toNat (ms[k.toNat] / 10)).take (k + 1).toNat).reverse = ms[k.toNat] / 10 :: (ms.take k.toNat).reverse := by
          rw [show (k + 1).toNat = k.toNat + 1 by omega, List.take_succ_eq_append_getElem (by simpa using hkm), List.take_set_of_le (Nat.le_refl _)]; simp
        have e3 : (bs.set p (UInt8.ofNat (48 + (ms[k.toNat] % 10).toNat))).drop p = UInt8.ofNat (48 + (ms[k.toNat] % 10).toNat) :: bs.drop (p + 1) := by
          rw [List.drop_eq_getElem_cons (by simp; omega), List.getElem_set_self, List.drop_set_of_lt (by omega)]
        rw [e2, e3, ← hres]
        simp
    · have hne : ((f[p].toNat : Int) != 48) = true := by
        rw [bne_iff_ne]; intro e
        exact hd (u8_eq (by have : (48 : UInt8).toNat = 48 := rfl; omega))
      rw [if_neg hd] at hres
      have hcnt' : (((f.take p).filter (· ≠ 48)).length : Int) + 1 ≤ k := by
        have : ([f[p]].filter (· ≠ 48)).length = 1 := by simp [hd]
        rw [List.length_append, this] at hcnt; omega
      rw [if_pos hne, w3, w64_in (by omega) (by omega)]
      refine hkk _ ⟨p, k - 1, ms, bs, by omega, hb, hbd, hm, by omega, hz, by omega, ?_, by rfl⟩ (by dsimp only; omega)
      have hkm : k.toNat < ms.length := by omega
      have htk : (ms.take (k + 1).toNat).reverse = ms[k.toNat] :: (ms.take k.toNat).reverse := by
        rw [show (k + 1).toNat = k.toNat + 1 by omega, List.take_succ_eq_append_getElem hkm]; simp
      rw [htk] at hres
      rw [show (k - 1 + 1).toNat = k.toNat by omega, ← hres, List.drop_eq_getElem_cons (show p < bs.length by omega), hbp]
      simp
/-- A day and a second of it. -/
def stampB (n x : Int) : List UInt8 := fillL [48, 48, 48, 48, 45, 48, 48, 45, 48, 48, 84, 48, 48, 58, 48, 48, 58, 48, 48] [yearP n, monP n, dayP n, x / 3600, x / 60 % 60, x % 60] ++ [90]
theorem stamp_clock (n x : Int) : (stampB n x).length = 20 ∧ ((stampB n x).drop 11).take 8 = hms x := ⟨rfl, rfl⟩
theorem kStText (n x : Int) (hn : -719162 ≤ n ∧ n ≤ 2932896) (h0 : 0 ≤ x) (h1 : x < 86400) {K} (h : K (S (stampB n x)) true) : Xstamp_Text n x K := by
  unfold Xstamp_Text Ystamp_Text
  refine sday n ?_
  rw [if_pos hn]
  refine kStClock x h0 h1 ?_
  obtain ⟨⟨v1, v2, v3, v4, v5, v6⟩, _⟩ := num_date hn.1 hn.2
  have := dim_bd (yearP n) (monP n)
  rw [if_neg (by simp), if_neg (by simp)]
  have := kFill [48, 48, 48, 48, 45, 48, 48, 45, 48, 48, 84, 48, 48, 58, 48, 48, 58, 48, 48] [yearP n, monP n, dayP n, x / 3600, x / 60 % 60, x % 60] (by decide) (by simp) (fun m hm => by
    simp only [List.mem_cons, List.not_mem_nil, or_false] at hm
    rcases hm with rfl | rfl | rfl | rfl | rfl | rfl <;> omega) (show 5 < 6 by decide) (K := fun r10 => if ((ByteArray.size r10 + 1 : Nat) : Int) > 9223372036854775807 then False else K (r10 ++ S [90]) true) (by
    rw [if_neg (by rw [S_size]; simp [fillL, fillR]), S_append]; exact h)
  exact this
theorem kJoin (ws : List (List UInt8)) (h1 : ws.length ≤ 1000000) (h2 : (joinT ws).length ≤ 100000000) {K} (h : K (S (joinT ws))) : Xjoin (WV ws) (ByteArray.mk #[9]) K := by
  have e : (ws.map S).map (fun b => b.data.toList) = ws := by rw [List.map_map]; exact map_id_of ws fun w _ => S_data w
  refine ⟨ws.map S, by simp [WV, cs, List.map_map], by simpa using h1, ?_, ?_⟩
  · rw [e]; exact h2
  · rw [e]; exact h
theorem monName_cap {m : Int} (h1 : 1 ≤ m) (h2 : m ≤ 12) : 3 ≤ (monNames.getD (m - 1).toNat []).length ∧
    List.set (B8 ((monNames.getD (m - 1).toNat []).take 3)) 0 (Eng.setE (List.getD (B8 ((monNames.getD (m - 1).toNat []).take 3)) 0 Eng.V.bad) 0 [.c (.int .u8 (wu8 ((((monNames.getD (m - 1).toNat []).take 3).getD 0 0).toNat - 32)))]) = B8 (monCap m) ∧ (monCap m).length = 3 := by
  rcases month_cases h1 h2 with rfl | rfl | rfl | rfl | rfl | rfl | rfl | rfl | rfl | rfl | rfl | rfl <;> exact ⟨by decide, by rfl, by rfl⟩
theorem kWrite (kind : List UInt8) (n : Int) (rest : List (List UInt8)) (hn : -719162 ≤ n ∧ n ≤ 2932896) (h1 : rest.length ≤ 1000) (h2 : (joinT (dateWords kind n rest)).length ≤ 100000) {K} (h : K (S (joinT (dateWords kind n rest) ++ [10]))) :
    Xzic_write (S kind) n (WV rest) K := by
  unfold Xzic_write Yzic_write
  refine sday n ?_
  rw [if_pos hn]
  obtain ⟨⟨v1, v2, v3, v4, v5, v6⟩, _⟩ := num_date hn.1 hn.2
  have hd := dim_bd (yearP n) (monP n)
  obtain ⟨n1, n2, n3⟩ := monName_cap v3 v4
  refine kNames ?_
  have w1 : w64 (monP n - 1) = monP n - 1 := w64_in (by omega) (by omega)
  rw [w1, if_pos (by omega)]
  refine month_at (monP n - 1).toNat (by omega) ?_
  generalize hN : monNames.getD (monP n - 1).toNat [] = N at *
  have hl3 : (N.take 3).length = 3 := by simp; omega
  simp only [S_size, S_extract, List.drop_zero, Nat.sub_zero, bytesV_S, B8_len, hl3, lt]
  rw [if_pos (by omega), if_pos (by omega)]
  refine asB8 (by omega) ?_
  have e0 : (N.take 3)[0]'(by omega) = (N.take 3).getD 0 0 := by rw [getD_in _ _ _ (by omega)]
  rw [if_pos (by omega), if_pos (by omega), e0, n2]
  have tail : (if Eng.roomOk (List.length [V.c (.string (S kind)), V.c (.string (S (itoaK (yearP n)))), V.c (.string (S (monCap (monP n)))), V.c (.string (S (itoaK (dayP n))))] + (WV rest).length) 16 = true then
      Xjoin ([V.c (.string (S kind)), V.c (.string (S (itoaK (yearP n)))), V.c (.string (S (monCap (monP n)))), V.c (.string (S (itoaK (dayP n))))] ++ WV rest) (ByteArray.mk #[9]) (fun r => if ((ByteArray.size r + 1 : Nat) : Int) > 9223372036854775807 then False else K (r ++ ByteArray.mk #[10])) else False) := by
    rw [if_pos (by unfold roomOk; rw [decide_eq_true_eq, WV_len]; simp; omega)]
    have e : [V.c (.string (S kind)), V.c (.string (S (itoaK (yearP n)))), V.c (.string (S (monCap (monP n)))), V.c (.string (S (itoaK (dayP n))))] ++ WV rest = WV (dateWords kind n rest) := rfl
    rw [e]
    refine kJoin _ (by simp [dateWords]; omega) (by omega) ?_
    rw [if_neg (by rw [S_size]; omega), S_append]
    exact h
  have p1 : ∀ {Q}, Q (S (itoaK (yearP n))) → Xitoa (yearP n) Q := fun hq => sitoa _ (by omega) (by omega) hq
  have p2 : ∀ {Q}, Q (S (itoaK (dayP n))) → Xitoa (dayP n) Q := fun hq => sitoa _ (by omega) (by omega) hq
  have all := B8_all (monCap (monP n))
  simp only [B8_pack]
  exact ⟨p1 ⟨by rw [if_pos all]; exact p2 tail, p2 (by rw [if_pos all]; exact tail)⟩, by rw [if_pos all]; exact p1 (p2 tail)⟩
theorem itoa_len (n : Int) : (itoaK n).length ≤ 21 := itoaK_len n
theorem join_len (ws : List (List UInt8)) (m : Nat) (h : ∀ w ∈ ws, w.length ≤ m) : (joinT ws).length ≤ (m + 1) * ws.length := by
  induction ws with
  | nil => simp [joinT, Lib.join, List.intercalate, List.intersperse]
  | cons w r ih =>
    cases r with
    | nil => rw [join_one]; have := h w (.head _); simp; omega
    | cons v r =>
      rw [join_cons]
      have h1 := h w (.head _)
      have h2 := ih fun x hx => h x (.tail _ hx)
      simp only [List.length_append, List.length_cons] at h2 ⊢
      rw [Nat.mul_add (m + 1) (r.length + 1) 1]
      omega
theorem date_len' (kind : List UInt8) (n : Int) (rest : List (List UInt8)) (hn : -719162 ≤ n ∧ n ≤ 2932896) (hk : kind.length ≤ 21) (hr : ∀ w ∈ rest, w.length ≤ 21) : (joinT (dateWords kind n rest)).length ≤ 22 * (4 + rest.length) := by
  obtain ⟨⟨v1, v2, v3, v4, v5, v6⟩, _⟩ := num_date hn.1 hn.2
  have := join_len (dateWords kind n rest) 21 (fun w hw => by
    unfold dateWords at hw
    simp only [List.cons_append, List.nil_append, List.mem_cons] at hw
    rcases hw with rfl | rfl | rfl | rfl | hw
    · exact hk
    · exact itoa_len _
    · have := (monName_cap v3 v4).2.2; omega
    · exact itoa_len _
    · exact hr w hw)
  simp [dateWords] at this ⊢
  omega
theorem kLeapLine (l : LR) (hn : -719162 ≤ l.1 ∧ l.1 ≤ 2932896) (s1 s2 s3 : List UInt8) (h1 : s1 = if l.2.1 < 0 then [50, 51, 58, 53, 57, 58, 53, 57] else [50, 51, 58, 53, 57, 58, 54, 48]) (h2 : s2 = if l.2.1 < 0 then [45] else [43]) (h3 : s3 = if l.2.2 = true then [82] else [83])
    {K} (h : K (S (joinT (leapWords l) ++ [10]))) : Xzic_write (S [76, 101, 97, 112]) l.1 (WV [s1, s2, s3]) K := by
  have hl := date_len' [76, 101, 97, 112] l.1 [s1, s2, s3] hn (by decide) (fun w hw => by
    simp only [List.mem_cons, List.not_mem_nil, or_false] at hw
    rcases hw with rfl | rfl | rfl
    · rw [h1]; split <;> decide
    · rw [h2]; split <;> decide
    · rw [h3]; split <;> decide)
  refine kWrite _ _ _ hn (by simp) (by simp at hl; omega) ?_
  rw [h1, h2, h3]; exact h
theorem leap_len {l : LR} (hn : -719162 ≤ l.1 ∧ l.1 ≤ 2932896) : (joinT (leapWords l) ++ [10]).length ≤ 200 := by
  have := date_len' [76, 101, 97, 112] l.1 [if l.2.1 < 0 then [50, 51, 58, 53, 57, 58, 53, 57] else [50, 51, 58, 53, 57, 58, 54, 48], if l.2.1 < 0 then [45] else [43], if l.2.2 = true then [82] else [83]] hn (by decide) (fun w hw => by
    simp only [List.mem_cons, List.not_mem_nil, or_false] at hw
    rcases hw with rfl | rfl | rfl <;> split <;> decide)
  rw [List.length_append]
  simp only [List.length_cons, List.length_nil] at this ⊢
  unfold leapWords; omega
theorem checkG_len : ∀ (p : List LR) (k : Nat) (a : Int), (checkG k a p).2.1 = 0 → p = [] ∨ k + p.length ≤ 200
  | [], k, a, h => .inl rfl
  | x :: p, k, a, h => by
    rw [checkG] at h
    split at h
    · rename_i hw; exact absurd h hw
    · rename_i hw
      have hw : wrongL k x a = 0 := by omega
      obtain ⟨q0, _⟩ := wrongL_0 hw
      rcases checkG_len p _ _ h with rfl | h'
      · right; simp; omega
      · right; simp; omega
theorem kZText (t : Tb) (hl : t.ls.length ≤ 1000000) {K} (h : K (S (ztextL t).1) (ztextL t).2) : Xzic_Text (TLV t.ls, t.has, t.ex, ()) K := by
  unfold Xzic_Text Yzic_Text
  refine kRightT t hl ?_
  unfold ztextL at h
  cases hr : rightT t
  · rw [if_pos (by rfl)]
    rw [hr, if_neg (by simp)] at h; exact h
  rw [hr, if_pos rfl] at h
  rw [if_neg (by simp)]
  obtain ⟨g1, g2⟩ := right_0 hr
  obtain ⟨x1, x2⟩ := right_ex hr
  have hlen : t.ls.length ≤ 200 := by
    rcases checkG_len _ _ _ g1 with e | e
    · rw [e]; simp
    · omega
  have all := checkG_all _ _ _ g1
  unfold ztextB zlines at h
  rw [TLV_len]
  have bd : ∀ j, j ≤ t.ls.length → (((t.ls.take j).map leapWords).map fun ws => joinT ws ++ [10]).flatten.length ≤ 200 * j := fun j hj => by
    induction j with
    | zero => simp
    | succ j ih =>
      have e : j < t.ls.length := hj
      obtain ⟨q1, q2, _⟩ := all _ (List.getElem_mem e)
      have := leap_len (l := t.ls[j]) (by omega)
      have := ih (by omega)
      rw [List.take_succ_eq_append_getElem e, List.map_append, List.map_append, List.flatten_append, List.length_append]
      simp only [List.map_cons, List.map_nil, List.flatten_cons, List.flatten_nil, List.append_nil]
      omega
  refine lp_at (fun j => (((), S (((t.ls.take j).map leapWords).map fun ws => joinT ws ++ [10]).flatten, false, TLV t.ls, (t.ls.length : Int), (j : Int), ()), (TLV t.ls, t.has, t.ex, ()), ())) t.ls.length rfl fun j hj k hk => ?_
  unfold Lzic_Text_0
  dsimp only
  have bj := bd j hj
  generalize hT : (((t.ls.take j).map leapWords).map fun ws => joinT ws ++ [10]).flatten = T at *
  by_cases e : j < t.ls.length
  · rw [if_pos (decide_eq_true (by omega)), TLV_len, if_pos (by omega), Int.toNat_natCast]
    refine asL1 e (asL2 e (asL3 e ?_))
    obtain ⟨q1, q2, q3⟩ := all _ (List.getElem_mem e)
    have hn : -719162 ≤ (t.ls[j]).1 ∧ (t.ls[j]).1 ≤ 2932896 := by omega
    have w1 : w64 ((j : Int) + 1) = ((j + 1 : Nat) : Int) := by rw [w64_in (by omega) (by omega)]; omega
    have ll := leap_len (l := t.ls[j]) hn
    have go : ∀ s1 s2 s3, s1 = (if (t.ls[j]).2.1 < 0 then [50, 51, 58, 53, 57, 58, 53, 57] else [50, 51, 58, 53, 57, 58, 54, 48]) → s2 = (if (t.ls[j]).2.1 < 0 then [45] else [43]) → s3 = (if (t.ls[j]).2.2 = true then [82] else [83]) →
        Xzic_write (S [76, 101, 97, 112]) (t.ls[j]).1 (WV [s1, s2, s3]) (fun r => if ((ByteArray.size (S T) + ByteArray.size r : Nat) : Int) > 9223372036854775807 then False else k (((), S T ++ r, false, TLV t.ls, (t.ls.length : Int), w64 ((j : Int) + 1), ()), (TLV t.ls, t.has, t.ex, ()), ())) := fun s1 s2 s3 e1 e2 e3 => by
      refine kLeapLine _ hn s1 s2 s3 e1 e2 e3 ?_
      rw [if_neg (by rw [S_size, S_size]; omega), w1, S_append]
      have := hk e
      rw [List.take_succ_eq_append_getElem e, List.map_append, List.map_append, List.flatten_append, hT] at this
      simpa using this
    by_cases c1 : (t.ls[j]).2.1 < 0
    · rw [if_pos (decide_eq_true c1)]
      rw [if_pos c1, if_pos c1] at go
      cases c2 : (t.ls[j]).2.2
      · rw [if_neg (by simp)]
        exact go _ _ [83] rfl rfl (by rw [c2]; rfl)
      · rw [if_pos rfl]
        exact go _ _ [82] rfl rfl (by rw [c2]; rfl)
    · rw [if_neg (dneg c1)]
      rw [if_neg c1, if_neg c1] at go
      cases c2 : (t.ls[j]).2.2
      · rw [if_neg (by simp)]
        exact go _ _ [83] rfl rfl (by rw [c2]; rfl)
      · rw [if_pos rfl]
        exact go _ _ [82] rfl rfl (by rw [c2]; rfl)
  · have : j = t.ls.length := by omega
    subst this
    rw [List.take_length] at hT
    rw [if_neg (dneg (by omega))]
    cases hh : t.has
    · rw [if_neg (by simp)]
      rw [hh, if_neg (by simp), List.append_nil, hT] at h
      exact h
    · obtain ⟨y1, y2⟩ := x2 hh
      rw [hh, if_pos rfl, List.map_append, List.flatten_append, hT] at h
      rw [if_pos rfl, Int.tdiv_eq_ediv_of_nonneg (by omega), Int.tmod_eq_emod_of_nonneg (by omega), w64_in (by omega) (by omega)]
      have hn : -719162 ≤ t.ex / 86400 ∧ t.ex / 86400 ≤ 2932896 := by omega
      refine kStText _ _ hn (by omega) (by omega) ?_
      obtain ⟨z1, z2⟩ := stamp_clock (t.ex / 86400) (t.ex % 86400)
      rw [S_size, z1, if_pos (by omega), S_extract, z2]
      have hl := date_len' [69, 120, 112, 105, 114, 101, 115] (t.ex / 86400) [hms (t.ex % 86400)] hn (by decide) (fun w hw => by
        simp only [List.mem_cons, List.not_mem_nil, or_false] at hw
        subst hw; exact (show 8 ≤ 21 by decide))
      refine kWrite [69, 120, 112, 105, 114, 101, 115] _ [hms (t.ex % 86400)] hn (by simp) (by simp at hl; omega) ?_
      rw [if_neg (by rw [S_size, S_size, List.length_append]; simp at hl ⊢; omega), S_append]
      simpa [expWords] using h
end Go.Proofs.YtoiiblhbojhogaaGreatDoor
end
section
set_option linter.unusedVariables false
set_option linter.unusedSimpArgs false
namespace Go.Proofs.YtoiiblhbojhogaaGreatDoor
open Go Go.Proofs.YtoiiblhbojhogaaGreatDoor.Eng Go.Proofs.YtoiiblhbojhogaaGreatDoor.Pl
set_option linter.unusedVariables false
set_option linter.unusedSimpArgs false
set_option maxRecDepth 100000
set_option maxHeartbeats 4000000

theorem kParseAt (s : List UInt8) (r : Tb × Int × Int) (e : zparseL s = r) (hs : Nat.ble s.length 90000 = true) {K} (h : ∀ o f, K ((), r.1.has, r.1.ex, ()) (r.2.1, r.2.2, ()) (TLV r.1.ls) o f) : Xzic_Parse (S s) K := by
  subst e; exact kParse s (Nat.le_of_ble_eq_true hs) h
theorem kTextAt (t : Tb) (r : List UInt8 × Bool) (e : ztextL t = r) (hl : Nat.ble t.ls.length 1000000 = true) {K} (h : K (S r.1) r.2) : Xzic_Text (TLV t.ls, t.has, t.ex, ()) K := by
  subst e; exact kZText t (Nat.le_of_ble_eq_true hl) h
theorem kMonthAt (s : List UInt8) (r : Int × Bool) (e : monthL s = r) (hl : Nat.ble s.length 1000000 = true) {K} (h : K r.1 r.2) : Xzic_Month (S s) K := by
  subst e; exact kMonth s (Nat.le_of_ble_eq_true hl) h
theorem kClockAt (s : List UInt8) (r : Int × Bool) (e : zclockL s = r) (hl : Nat.ble s.length 1000000 = true) {K} (h : K r.1 r.2) : Xzic_Clock (S s) K := by
  subst e; exact kClock s (Nat.le_of_ble_eq_true hl) h
theorem kSameAt (a b : Tb) (r : Bool) (e : decide (a = b) = r) (hl : Nat.ble a.ls.length 1000000 = true) {K} (h : K r) : Xepactref09_Same (TLV a.ls, a.has, a.ex, ()) (TLV b.ls, b.has, b.ex, ()) K := by
  subst e; exact kSame a b (Nat.le_of_ble_eq_true hl) h
def tbS : Tb := ⟨[(911, 1, false), (1095, -1, true)], true, 126230405⟩
def txS : List UInt8 := [76, 101, 97, 112, 9, 49, 57, 55, 50, 9, 74, 117, 110, 9, 51, 48, 9, 50, 51, 58, 53, 57, 58, 54, 48, 9, 43, 9, 83, 10, 76, 101, 97, 112, 9, 49, 57, 55, 50, 9, 68, 101, 99, 9, 51, 49, 9, 50, 51, 58, 53, 57, 58, 53, 57, 9, 45, 9, 82, 10, 69, 120, 112, 105, 114, 101, 115, 9, 49, 57, 55, 52, 9, 74, 97, 110, 9, 49, 9, 48, 48, 58, 48, 48, 58, 48, 53, 10]
theorem kSmall {K : Bool → Prop} (h : K true) : Xepactlaw11_small K := by
  rw [Xepactlaw11_small, Yepactlaw11_small]
  refine kParseAt _ (tbS, 0, 0) (by kernel_rfl) (by kernel_rfl) fun o1 f1 => ?_
  refine kParseAt _ (tb0, 1, 6) (by kernel_rfl) (by kernel_rfl) fun o2 f2 => ?_
  refine kParseAt _ (tb0, 2, 5) (by kernel_rfl) (by kernel_rfl) fun o3 f3 => ?_
  refine kParseAt _ (tb0, 1, 9) (by kernel_rfl) (by kernel_rfl) fun o4 f4 => ?_
  refine kParseAt _ (tb0, 1, 2) (by kernel_rfl) (by kernel_rfl) fun o5 f5 => ?_
  refine kParseAt _ (tb0, 2, 2) (by kernel_rfl) (by kernel_rfl) fun o6 f6 => ?_
  refine kTextAt tbS (txS, true) (by kernel_rfl) (by kernel_rfl) ?_
  refine kParseAt _ (tbS, 0, 0) (by kernel_rfl) (by kernel_rfl) fun o7 f7 => ?_
  refine kMonthAt _ (9, true) (by kernel_rfl) (by kernel_rfl) ?_
  refine kMonthAt _ (0, false) (by kernel_rfl) (by kernel_rfl) ?_
  refine kClockAt _ (3723, true) (by kernel_rfl) (by kernel_rfl) ?_
  refine kClockAt _ (0, false) (by kernel_rfl) (by kernel_rfl) ?_
  refine kClockAt _ (0, false) (by kernel_rfl) (by kernel_rfl) ?_
  refine kSameAt tbS tbS true (by kernel_rfl) (by kernel_rfl) ?_
  simp only [beq_self_eq_true, Bool.and_self, Bool.and_true, if_true]
  refine kSameAt tbS tbS true (by kernel_rfl) (by kernel_rfl) ?_
  simp only [beq_self_eq_true, Bool.and_self, Bool.and_true, Bool.not_false, if_true, lt]
  rw [kS_eq txS, if_pos (by kernel_rfl)]
  exact h
def monGreat : List (List UInt8) := [[74, 97, 110, 117, 97, 114, 121], [70, 101, 98, 114, 117, 97, 114, 121], [77, 97, 114, 99, 104], [65, 112, 114, 105, 108], [77, 97, 121], [74, 117, 110, 101], [74, 117, 108, 121], [65, 117, 103, 117, 115, 116], [83, 101, 112, 116, 101, 109, 98, 101, 114], [79, 99, 116, 111, 98, 101, 114], [78, 111, 118, 101, 109, 98, 101, 114], [68, 101, 99, 101, 109, 98, 101, 114]]
theorem great_at (n : Nat) (h : n < 12) {F : Prop} {K : ByteArray → Prop} (hk : K (S (monGreat.getD n []))) : Eng.asStr (getC [Eng.V.c (Value.string (ByteArray.mk #[(74 : UInt8), (97 : UInt8), (110 : UInt8), (117 : UInt8), (97 : UInt8), (114 : UInt8), (121 : UInt8)])), Eng.V.c (Value.string (ByteArray.mk #[(70 : UInt8), (101 : UInt8), (98 : UInt8), (114 : UInt8), (117 : UInt8), (97 : UInt8), (114 : UInt8), (121 : UInt8)])), Eng.V.c (Value.string (ByteArray.mk #[(77 : UInt8), (97 : UInt8), (114 : UInt8), (99 : UInt8), (104 : UInt8)])), Eng.V.c (Value.string (ByteArray.mk #[(65 : UInt8), (112 : UInt8), (114 : UInt8), (105 : UInt8), (108 : UInt8)])), Eng.V.c (Value.string (ByteArray.mk #[(77 : UInt8), (97 : UInt8), (121 : UInt8)])), Eng.V.c (Value.string (ByteArray.mk #[(74 : UInt8), (117 : UInt8), (110 : UInt8), (101 : UInt8)])), Eng.V.c (Value.string (ByteArray.mk #[(74 : UInt8), (117 : UInt8), (108 : UInt8), (121 : UInt8)])), Eng.V.c (Value.string (ByteArray.mk #[(65 : UInt8), (117 : UInt8), (103 : UInt8), (117 : UInt8), (115 : UInt8), (116 : UInt8)])), Eng.V.c (Value.string (ByteArray.mk #[(83 : UInt8), (101 : UInt8), (112 : UInt8), (116 : UInt8), (101 : UInt8), (109 : UInt8), (98 : UInt8), (101 : UInt8), (114 : UInt8)])), Eng.V.c (Value.string (ByteArray.mk #[(79 : UInt8), (99 : UInt8), (116 : UInt8), (111 : UInt8), (98 : UInt8), (101 : UInt8), (114 : UInt8)])), Eng.V.c (Value.string (ByteArray.mk #[(78 : UInt8), (111 : UInt8), (118 : UInt8), (101 : UInt8), (109 : UInt8), (98 : UInt8), (101 : UInt8), (114 : UInt8)])), Eng.V.c (Value.string (ByteArray.mk #[(68 : UInt8), (101 : UInt8), (99 : UInt8), (101 : UInt8), (109 : UInt8), (98 : UInt8), (101 : UInt8), (114 : UInt8)]))] n 0) F K :=
  asWd (ws := monGreat) h hk
theorem months_all : ∀ k : Nat, k < 12 → (∀ n : Nat, n < 10 → monthL ((monGreat.getD k []).take n) = (if n < 3 then (0, false) else ((k : Int) + 1, true)) ∧ monthL (foldLw ((monGreat.getD k []).take n)) = (if n < 3 then (0, false) else ((k : Int) + 1, true))) ∧
    (monthL (monGreat.getD k [] ++ [120])).2 = false ∧ 3 ≤ (monGreat.getD k []).length ∧ (monGreat.getD k []).length < 10 := by decide +kernel
theorem flat_len : ∀ (xs : List (List UInt8)) (m : Nat), (∀ x ∈ xs, x.length ≤ m) → xs.flatten.length ≤ m * xs.length
  | [], m, h => by simp
  | x :: r, m, h => by
    have h1 := h x (.head _)
    have h2 := flat_len r m fun y hy => h y (.tail _ hy)
    rw [List.flatten_cons, List.length_append, List.length_cons, Nat.mul_add, Nat.mul_one]; omega
theorem ztext_len {t : Tb} (hr : rightT t = true) : (ztextB t).length ≤ 200 * (t.ls.length + 1) ∧ t.ls.length ≤ 200 := by
  obtain ⟨g1, g2⟩ := right_0 hr
  have hlen : t.ls.length ≤ 200 := by
    rcases checkG_len _ _ _ g1 with e | e
    · rw [e]; simp
    · omega
  refine ⟨?_, hlen⟩
  unfold ztextB
  have := flat_len ((zlines t).map fun ws => joinT ws ++ [10]) 200 fun x hx => by
    obtain ⟨ws, hws, rfl⟩ := List.mem_map.1 hx
    unfold zlines at hws
    rw [List.mem_append] at hws
    rcases hws with hws | hws
    · obtain ⟨l, hl, rfl⟩ := List.mem_map.1 hws
      obtain ⟨q1, q2, q3⟩ := checkG_all _ _ _ g1 l hl
      exact leap_len (by omega)
    · split at hws
      · rename_i hh
        obtain ⟨x1, x2⟩ := (right_ex hr).2 hh
        simp only [List.mem_singleton] at hws
        subst hws
        have hl := date_len' [69, 120, 112, 105, 114, 101, 115] (t.ex / 86400) [hms (t.ex % 86400)] (by omega) (by decide) (fun w hw => by
          simp only [List.mem_cons, List.not_mem_nil, or_false] at hw
          subst hw; exact (show 8 ≤ 21 by decide))
        rw [List.length_append]
        unfold expWords
        simp at hl ⊢; omega
      · cases hws
  have l2 : ((zlines t).map fun ws => joinT ws ++ [10]).length ≤ t.ls.length + 1 := by
    unfold zlines; split <;> simp
  exact Nat.le_trans this (Nat.mul_le_mul (Nat.le_refl _) l2)
/-- What stands after so many rounds. -/
def pN (rem : List UInt8) (k : Nat) (L : List (List UInt8)) (i : Nat) : List (List UInt8) := if i ≤ k then (L.take i).map otherL else (L.take k).map otherL ++ (32 :: 35 :: rem) :: ((L.drop k).take (i - k)).map otherL
theorem pN_lt {rem : List UInt8} {k : Nat} {L : List (List UInt8)} {i : Nat} (h : i < L.length) : pN rem k L (i + 1) = pN rem k L i ++ ((if i = k then [32 :: 35 :: rem] else []) ++ [otherL L[i]]) := by
  unfold pN
  by_cases e : i = k
  · subst e
    have e1 : (L.drop i).take 1 = [L[i]] := by rw [List.drop_eq_getElem_cons h]; rfl
    rw [if_neg (by omega), if_pos (Nat.le_refl _), if_pos rfl, show i + 1 - i = 1 by omega, e1]
    rfl
  · by_cases e2 : i ≤ k
    · rw [if_pos (by omega), if_pos e2, if_neg e, List.take_succ_eq_append_getElem h, List.map_append]; rfl
    · rw [if_neg (by omega), if_neg e2, if_neg e, show i + 1 - k = (i - k) + 1 by omega, List.take_succ_eq_append_getElem (show i - k < (L.drop k).length by simp; omega), List.map_append]
      have e1 : (L.drop k)[i - k]'(by simp; omega) = L[i] := by simp [show k + (i - k) = i by omega]
      rw [e1, List.append_assoc]; rfl
theorem pN_end {rem : List UInt8} {k : Nat} {L : List (List UInt8)} (hk : k ≤ L.length) : pN rem k L (L.length + 1) = otherLines rem k L ∧ (k = L.length → pN rem k L L.length ++ [32 :: 35 :: rem] = otherLines rem k L) ∧ (k < L.length → pN rem k L L.length = otherLines rem k L) := by
  unfold pN otherLines
  refine ⟨?_, fun e => ?_, fun e => ?_⟩
  · have e1 : (L.drop k).take (L.length + 1 - k) = L.drop k := List.take_of_length_le (by simp; omega)
    rw [if_neg (by omega), e1]
  · subst e; rw [if_pos (Nat.le_refl _), List.drop_length]; rfl
  · have e1 : (L.drop k).take (L.length - k) = L.drop k := List.take_of_length_le (by simp)
    rw [if_neg (by omega), e1]
def nlT (ls : List (List UInt8)) : List UInt8 := (ls.map (· ++ [10])).flatten
theorem nlT_app (a b : List (List UInt8)) : nlT (a ++ b) = nlT a ++ nlT b := by simp [nlT]
theorem nlT_len (ls : List (List UInt8)) : (nlT ls).length = (ls.map List.length).sum + ls.length := by
  unfold nlT
  induction ls with
  | nil => rfl
  | cons x r ih => simp at ih ⊢; omega
theorem pN_len (rem : List UInt8) (k : Nat) (L : List (List UInt8)) (i : Nat) (hi : i ≤ L.length) (m : Nat) (hm : ∀ x ∈ L, x.length ≤ m) : (nlT (pN rem k L i)).length ≤ (3 * m + 1) * i + rem.length + 3 := by
  have key : ∀ l : List (List UInt8), (∀ x ∈ l, x ∈ L) → (nlT (l.map otherL)).length ≤ (3 * m + 1) * l.length := fun l hl => by
    have := flat_len ((l.map otherL).map (· ++ [10])) (3 * m + 1) fun y hy => by
      obtain ⟨z, hz, rfl⟩ := List.mem_map.1 hy
      obtain ⟨x, hx, rfl⟩ := List.mem_map.1 hz
      have h1 := other_len x
      have h2 := hm x (hl x hx)
      simp; omega
    simpa [nlT] using this
  unfold pN
  split
  · have := key (L.take i) fun x hx => List.mem_of_mem_take hx
    rw [List.length_take, Nat.min_eq_left hi] at this; omega
  · have h1 := key (L.take k) fun x hx => List.mem_of_mem_take hx
    have h2 := key ((L.drop k).take (i - k)) fun x hx => List.mem_of_mem_drop (List.mem_of_mem_take hx)
    rw [List.length_take] at h1 h2
    rw [List.length_drop] at h2
    have h3 : min k L.length = k := by omega
    have h4 : min (i - k) (L.length - k) = i - k := by omega
    rw [h3] at h1; rw [h4] at h2
    have e : (3 * m + 1) * k + (3 * m + 1) * (i - k) = (3 * m + 1) * i := by rw [← Nat.mul_add]; congr 1; omega
    have e2 : nlT ((L.take k).map otherL ++ (32 :: 35 :: rem) :: ((L.drop k).take (i - k)).map otherL) = nlT ((L.take k).map otherL) ++ ((32 :: 35 :: rem) ++ [10]) ++ nlT (((L.drop k).take (i - k)).map otherL) := by simp [nlT]
    rw [e2]; simp only [List.length_append, List.length_cons, List.length_nil]; omega
def wordsP (ws : List (List UInt8)) (j : Nat) : List UInt8 := ((ws.take j).map fun w => [9, 32] ++ foldLw w).flatten
theorem wordsP_succ {ws : List (List UInt8)} {j : Nat} (h : j < ws.length) : wordsP ws (j + 1) = wordsP ws j ++ [9, 32] ++ foldLw ws[j] := by
  unfold wordsP
  rw [List.take_succ_eq_append_getElem h, List.map_append, List.flatten_append]; simp
theorem wordsP_len (x : List UInt8) (j : Nat) : (wordsP (wordsL x) j).length ≤ 3 * x.length := by
  have h := other_len x
  unfold otherL at h
  have e : (wordsL x).map (fun w => [9, 32] ++ foldLw w) = ((wordsL x).take j).map (fun w => [9, 32] ++ foldLw w) ++ ((wordsL x).drop j).map (fun w => [9, 32] ++ foldLw w) := by rw [← List.map_append, List.take_append_drop]
  rw [e, List.flatten_append, List.length_append] at h
  unfold wordsP; omega
theorem bAtD (l : List UInt8) (i : Nat) (h : i < l.length) (x : UInt8) : (Eng.bAt (S l) i == (x.toNat : Int)) = (l[i] == x) := by
  rw [bAt_S, getD_in _ _ _ h, Bool.eq_iff_iff, beq_iff_eq, beq_iff_eq]
  constructor
  · intro e; exact u8_eq (by omega)
  · intro e; rw [e]
end Go.Proofs.YtoiiblhbojhogaaGreatDoor
end
section
set_option linter.unusedVariables false
set_option linter.unusedSimpArgs false
namespace Go.Proofs.YtoiiblhbojhogaaGreatDoor
open Go Go.Proofs.YtoiiblhbojhogaaGreatDoor.Eng Go.Proofs.YtoiiblhbojhogaaGreatDoor.Pl
set_option linter.unusedVariables false
set_option linter.unusedSimpArgs false
abbrev akT : AK := (.st (.cons (.sl (.st (.cons (.int .i64) (.cons (.int .i64) (.cons .bool .nil))))) (.cons .bool (.cons (.int .i64) .nil))))
theorem wfI {n : Int} (h : (Lit.int .i64 n).wf = true) : -9223372036854775808 ≤ n ∧ n ≤ 9223372036854775807 := by
  simp [Lit.wf, IntKind.min, IntKind.max, IntKind.bits, IntKind.signed] at h
  omega
theorem table_of (ls : List (Int × Int × Bool × Unit)) (has : Bool) (ex : Int) (h1 : ls.length ≤ 9223372036854775807) (h3 : (Lit.int .i64 ex).wf = true) :
    ∃ t : Tb, ((ls.map fun x => V.agg [.c (.int .i64 x.1), .c (.int .i64 x.2.1), .c (.bool x.2.2.1)], has, ex, ()) : List V × Bool × Int × Unit) = (TLV t.ls, t.has, t.ex, ()) ∧ (-9223372036854775808 ≤ t.ex ∧ t.ex ≤ 9223372036854775807) ∧ t.ls.length ≤ 9223372036854775807 := by
  refine ⟨⟨ls.map fun x => (x.1, x.2.1, x.2.2.1), has, ex⟩, ?_, wfI h3, by simpa using h1⟩
  unfold TLV
  rw [List.map_map]; rfl
theorem table_in (a : akT.T) (h : akT.good a) : ∃ t : Tb, (akT.DV a : List V × Bool × Int × Unit) = (TLV t.ls, t.has, t.ex, ()) ∧ (-9223372036854775808 ≤ t.ex ∧ t.ex ≤ 9223372036854775807) ∧ t.ls.length ≤ 9223372036854775807 := by
  obtain ⟨ls, has, ex, u⟩ := a
  obtain ⟨h1, h2, h3, h4⟩ := h
  exact table_of ls has ex h1.1 h3
end Go.Proofs.YtoiiblhbojhogaaGreatDoor
end
section
set_option linter.unusedVariables false
set_option linter.unusedSimpArgs false
namespace Go.Proofs.YtoiiblhbojhogaaGreatDoor.Pl
open Go
set_option linter.unusedVariables false
set_option linter.unusedSimpArgs false

theorem year_of_day {n y : Int} (h1 : 1 ≤ y) (h2 : y ≤ 9999) (h3 : fst y ≤ n) (h4 : n < fst (y + 1)) : yearP n = y := by
  have hb := fst_bd h1 h2
  have b1 : fst 1 ≤ fst y := fst_le h1
  have e1 : fst 1 = -719162 := rfl
  obtain ⟨hv, hn⟩ := num_date (n := n) (by omega) (by omega)
  have hb2 := num_bd hv
  rw [hn] at hb2
  generalize yearP n = z at *
  by_cases hlt : z < y
  · have := fst_le (y := z + 1) (z := y) (by omega); omega
  · by_cases hgt : y < z
    · have := fst_le (y := y + 1) (z := z) (by omega); omega
    · omega
theorem first_day {n : Int} (h0 : -719162 ≤ n) (h1 : n ≤ 2932896) (h : n = fst (yearP n)) : monP n = 1 ∧ dayP n = 1 := by
  obtain ⟨hv, hn⟩ := num_date h0 h1
  have hv1 : Vld (yearP n) 1 1 := ⟨hv.1, hv.2.1, by omega, by omega, by omega, by rw [dim_jan]; omega⟩
  have e := date_num hv1
  rw [num_first, ← h] at e
  exact e.2
theorem new_year {n : Int} (h0 : -719162 ≤ n - 1) (h1 : n ≤ 2932896) (h : yearP n ≠ yearP (n - 1)) : monP n = 1 ∧ dayP n = 1 := by
  obtain ⟨hv, hn⟩ := num_date (n := n) (by omega) h1
  have hb := num_bd hv
  rw [hn] at hb
  refine first_day (by omega) h1 ?_
  by_cases e : fst (yearP n) ≤ n - 1
  · exact absurd (year_of_day hv.1 hv.2.1 e (by omega)).symm h
  · omega
/-- What holds changes where a span begins or ends, or a year does. -/
theorem sum_turns {f : Ft} {p : Int} (h : ¬ (f.sum p ↔ f.sum (p + 1))) :
    (inDays (p + 1 + f.so) ∧ f.spans (yearP ((p + 1 + f.so) / 86400)) ∧ (p + 1 = f.from' (yearP ((p + 1 + f.so) / 86400)) ∨ p + 1 = f.to' (yearP ((p + 1 + f.so) / 86400)))) ∨
    (inDays (p + 1 + f.so) ∧ monP ((p + 1 + f.so) / 86400) = 1 ∧ dayP ((p + 1 + f.so) / 86400) = 1 ∧ p + 1 + f.so = 86400 * ((p + 1 + f.so) / 86400)) ∨
    (¬ inDays (p + 1 + f.so) ∧ (p + 1 + f.so) / 86400 = 2932897) := by
  by_cases e1 : inDays (p + 1 + f.so)
  · by_cases ed : (p + f.so) / 86400 = (p + 1 + f.so) / 86400
    · refine .inl ⟨e1, ?_⟩
      have e2 : inDays (p + f.so) := by unfold inDays; rw [ed]; exact e1
      by_cases es : f.spans (yearP ((p + 1 + f.so) / 86400))
      · refine ⟨es, ?_⟩
        have s1 : f.sum p ↔ _ := ⟨fun h => h.2.2, fun h => ⟨e2, by rw [ed]; exact es, h⟩⟩
        have s2 : f.sum (p + 1) ↔ _ := ⟨fun h => h.2.2, fun h => ⟨e1, es, h⟩⟩
        rw [ed] at s1
        generalize f.from' (yearP ((p + 1 + f.so) / 86400)) = a at *
        generalize f.to' (yearP ((p + 1 + f.so) / 86400)) = b at *
        rw [s1, s2] at h
        omega
      · exfalso
        refine h ⟨fun h => absurd h.2.1 (by rw [ed]; exact es), fun h => absurd h.2.1 es⟩
    · have hd : p + 1 + f.so = 86400 * ((p + 1 + f.so) / 86400) ∧ (p + f.so) / 86400 = (p + 1 + f.so) / 86400 - 1 := by omega
      unfold inDays at e1
      by_cases e2 : inDays (p + f.so)
      · unfold inDays at e2
        by_cases ey : yearP ((p + f.so) / 86400) = yearP ((p + 1 + f.so) / 86400)
        · refine .inl ⟨e1, ?_⟩
          by_cases es : f.spans (yearP ((p + 1 + f.so) / 86400))
          · refine ⟨es, ?_⟩
            have s1 : f.sum p ↔ _ := ⟨fun h => h.2.2, fun h => ⟨e2, by rw [ey]; exact es, h⟩⟩
            have s2 : f.sum (p + 1) ↔ _ := ⟨fun h => h.2.2, fun h => ⟨e1, es, h⟩⟩
            rw [ey] at s1
            generalize f.from' (yearP ((p + 1 + f.so) / 86400)) = a at *
            generalize f.to' (yearP ((p + 1 + f.so) / 86400)) = b at *
            rw [s1, s2] at h
            clear s1 s2 ey es hd
            omega
          · exfalso
            refine h ⟨fun h => absurd h.2.1 (by rw [ey]; exact es), fun h => absurd h.2.1 es⟩
        · obtain ⟨m1, m2⟩ := new_year (n := (p + 1 + f.so) / 86400) (by omega) (by omega) (by rw [hd.2] at ey; exact Ne.symm ey)
          exact .inr (.inl ⟨e1, m1, m2, hd.1⟩)
      · have e3 : (p + 1 + f.so) / 86400 = -719162 := by unfold inDays at e2; omega
        have hy : yearP (-719162) = 1 := by decide +kernel
        obtain ⟨m1, m2⟩ := first_day (n := (p + 1 + f.so) / 86400) (by omega) (by omega) (by rw [e3, hy]; rfl)
        exact .inr (.inl ⟨e1, m1, m2, hd.1⟩)
  · by_cases e2 : inDays (p + f.so)
    · refine .inr (.inr ⟨e1, ?_⟩)
      unfold inDays at *
      omega
    · exfalso
      exact h ⟨fun h => absurd h.1 e2, fun h => absurd h.1 e1⟩
/-- In a year whose spans are known. -/
theorem sum_year {f : Ft} {y n : Int} (hs : f.spans y) (h0 : 0 ≤ n) (h1 : n < 31536000) : f.sum (86400 * fst y - f.so + n) ↔
    ((f.from' y ≤ 86400 * fst y - f.so + n ∧ 86400 * fst y - f.so + n < f.to' y) ∨ (f.to' y ≤ f.from' y ∧ (f.from' y ≤ 86400 * fst y - f.so + n ∨ 86400 * fst y - f.so + n < f.to' y))) := by
  have hy1 := hs.2.2.1
  have hy2 := hs.2.2.2
  have hb := fst_bd hy1 hy2
  have hs1 := fst_succ y
  have e : (86400 * fst y - f.so + n + f.so) / 86400 = fst y + n / 86400 := by omega
  have ey : yearP (fst y + n / 86400) = y := year_of_day hy1 hy2 (by omega) (by rw [hs1]; split <;> omega)
  have ed : inDays (86400 * fst y - f.so + n + f.so) := by unfold inDays; rw [e]; have : fst (y + 1) ≥ fst y + 365 := by rw [hs1]; split <;> omega
                                                           omega
  unfold Ft.sum
  rw [e, ey]
  exact ⟨fun h => h.2.2, fun h => ⟨ed, hs, h⟩⟩

theorem nl_app (q : UInt8 → Bool) (a b : List UInt8) (ha : ∀ c ∈ a, q c = false) (hb : ∀ c, b.head? = some c → q c = true) : nl q (a ++ b) = a.length := by
  refine nl_of q _ _ (by simp) (fun c hc => ?_) fun h => ?_
  · rw [List.take_left'] at hc
    · exact ha c hc
    · rfl
  · rw [List.getElem_append_right (by omega)]
    simp only [Nat.sub_self]
    cases b with
    | nil => simp at h
    | cons c b => exact hb c rfl
theorem abbr_all {l : List UInt8} (h : abbrL l = true) : ∀ c ∈ l, badC c = false := by
  unfold abbrL at h
  simp only [Bool.and_eq_true, Bool.not_eq_true', List.any_eq_false] at h
  intro c hc
  have := h.2 c hc
  simpa using this
theorem nameP_name (a rest : List UInt8) (ha : abbrL a = true) (hr : ∀ c, rest.head? = some c → letC c = false) : nameP (nameT a ++ rest) = (a, true, rest) := by
  have hall := abbr_all ha
  unfold nameT nameP
  by_cases e : a.any (fun c => !letC c) = true
  · rw [if_pos e]
    have h60 : (60 :: (a ++ [62]) ++ rest).head? = some 60 := rfl
    have ht : (60 :: (a ++ [62]) ++ rest).tail = a ++ (62 :: rest) := by simp
    rw [if_pos h60, ht]
    have hn : nl (· == 62) (a ++ 62 :: rest) = a.length := nl_app _ _ _ (fun c hc => by
      have := hall c hc
      unfold badC at this
      rw [beq_eq_false_iff_ne]; rintro rfl; revert this; decide) (fun c hc => by simp at hc; subst hc; rfl)
    unfold splitL
    rw [hn, if_pos (by simp)]
    simp [ha]
  · rw [if_neg e]
    have hal : ∀ c ∈ a, letC c = true := by
      simp only [List.any_eq_true, not_exists, not_and, Bool.not_eq_true', Bool.not_eq_false] at e
      exact e
    have hne : a ≠ [] := by rintro rfl; unfold abbrL at ha; simp at ha
    have h60 : (a ++ rest).head? ≠ some 60 := by
      cases a with
      | nil => exact absurd rfl hne
      | cons c a =>
        have := hal c (.head _)
        intro h
        simp at h
        subst h; revert this; decide
    have hn : nl (fun c => !letC c) (a ++ rest) = a.length := nl_app _ _ _ (fun c hc => by simp [hal c hc]) fun c hc => by simp [hr c hc]
    rw [if_neg h60, hn]
    simp [ha]
theorem clockL_head (x : Int) (h : -604799 ≤ x ∧ x ≤ 604799) (r : List UInt8) : ∃ c t, (clockL x).1 ++ r = c :: t ∧ (isDig c = true ∨ c = 45) := by
  unfold clockL
  rw [if_pos h]
  obtain ⟨c, t, e, hc⟩ := clockB_head x.natAbs (by omega) r
  by_cases hn : x < 0
  · rw [if_pos hn]
    refine ⟨45, clockB x.natAbs ++ r, by simp, .inr rfl⟩
  · rw [if_neg hn]
    exact ⟨c, t, by simpa using e, .inl hc⟩
theorem dig_let {c : UInt8} (h : isDig c = true ∨ c = 45) : letC c = false := by
  rcases h with h | rfl
  · unfold isDig at h
    simp at h
    unfold letC
    simp
    omega
  · decide
theorem nameT_head (a r : List UInt8) (ha : abbrL a = true) : ∃ c t, nameT a ++ r = c :: t ∧ isDig c = false ∧ c ≠ 58 := by
  unfold nameT
  by_cases e : a.any (fun c => !letC c) = true
  · rw [if_pos e]; exact ⟨60, _, rfl, by decide, by decide⟩
  · rw [if_neg e]
    cases a with
    | nil => unfold abbrL at ha; simp at ha
    | cons c a =>
      have hc : letC c = true := by
        simp only [List.any_eq_true, not_exists, not_and, Bool.not_eq_true', Bool.not_eq_false] at e
        exact e c (.head _)
      refine ⟨c, a ++ r, rfl, ?_, ?_⟩
      · cases hd : isDig c
        · rfl
        · rw [dig_let (.inl hd)] at hc; cases hc
      · rintro rfl; revert hc; decide
theorem time_none (l : List UInt8) (h : l.head? = some 44) : timeL l = (0, l, false) := by
  cases l with
  | nil => cases h
  | cons c l =>
    simp at h
    subst h
    have hs : signL (44 :: l) = (1, 44 :: l) := rfl
    unfold timeL
    rw [hs, if_pos (by rw [dl_cons]; rfl)]
theorem kind_all {o : Int} {d : Bool} {l : List UInt8} {w : Bool} : kindR o d l w = true ↔ abbrL l = true ∧ d = w ∧ -89999 ≤ o ∧ o ≤ 89999 := by
  unfold kindR; simp [and_assoc]
theorem ruleP_text (r : Ru) (h : r.ok = true) (t : List UInt8) (ht : ∀ c, t.head? = some c → isDig c = false ∧ c ≠ 58 ∧ c ≠ 47) : ruleP (44 :: (r.txt ++ t)) = ⟨true, t, r⟩ := by
  have e : cutP 44 (44 :: (r.txt ++ t)) = (r.txt ++ t, true) := rfl
  unfold ruleP
  rw [e]
  have := parse_text r.k r.a r.b r.c r.x h t ht
  unfold Ru.txt
  simp only
  rw [this]
  rfl
theorem ft_eq (f : Ft) (h1 : f.sd = false) (h2 : f.wd = true) (h3 : f.has = true) : (⟨f.so, false, f.sa, f.wo, true, f.wa, true, f.fr, f.to⟩ : Ft) = f := by
  cases f; simp only at h1 h2 h3; subst h1 h2 h3; rfl
/-- What was written is read as it was. -/
theorem parse_foot (f : Ft) (h : f.ok = true) : Ft.parse f.txt = (f, true) := by
  have h0 := h
  unfold Ft.ok at h
  rw [Bool.and_eq_true] at h
  obtain ⟨k1, k2, k3, k4⟩ := kind_all.1 h.1
  have cs := clockL_head (-f.so) (by omega)
  have c44 : isDig 44 = false ∧ (44 : UInt8) ≠ 58 ∧ (44 : UInt8) ≠ 47 := by decide
  by_cases eh : f.has = true
  · rw [if_pos eh, Bool.and_eq_true, Bool.and_eq_true] at h
    obtain ⟨_, ⟨h1, h2⟩, h3⟩ := h
    obtain ⟨j1, j2, j3, j4⟩ := kind_all.1 h1
    unfold Ft.txt
    rw [if_pos eh]
    obtain ⟨rest2, hr2⟩ : ∃ r, r = (if f.wo - f.so ≠ 3600 then (clockL (-f.wo)).1 else []) ++ 44 :: (f.fr.txt ++ 44 :: f.to.txt) := ⟨_, rfl⟩
    rw [← hr2]
    have hlet2 : ∀ c, rest2.head? = some c → letC c = false := by
      intro c hc
      rw [hr2] at hc
      split at hc
      · obtain ⟨c', t, e, hd⟩ := clockL_head (-f.wo) (by omega) (44 :: (f.fr.txt ++ 44 :: f.to.txt))
        rw [e] at hc; simp at hc; subst hc
        exact dig_let hd
      · simp at hc; subst hc; decide
    have hu : usualP (nameT f.sa ++ ((clockL (-f.so)).1 ++ (nameT f.wa ++ rest2))) = ⟨true, nameT f.wa ++ rest2, f.so, f.sa⟩ := by
      unfold usualP
      rw [nameP_name f.sa _ k1 (fun c hc => by obtain ⟨c', t, e, hd⟩ := cs (nameT f.wa ++ rest2); rw [e] at hc; simp at hc; subst hc; exact dig_let hd)]
      simp only
      rw [time_clock (-f.so) (by omega) _ (fun c hc => by obtain ⟨c', t, e, hd⟩ := nameT_head f.wa rest2 j1; rw [e] at hc; simp at hc; subst hc; exact hd)]
      simp
    have hs : summerP f.so (nameT f.wa ++ rest2) = ⟨true, 44 :: (f.fr.txt ++ 44 :: f.to.txt), f.wo, f.wa⟩ := by
      unfold summerP
      rw [nameP_name f.wa _ j1 hlet2]
      simp only
      by_cases e3 : f.wo - f.so = 3600
      · rw [if_neg (by simpa using e3)] at hr2
        rw [hr2, List.nil_append, time_none _ rfl]
        simp only [Bool.false_eq_true, if_false]
        have : f.so + 3600 = f.wo := by omega
        rw [this]
      · rw [if_pos e3] at hr2
        rw [hr2, time_clock (-f.wo) (by omega) _ (fun c hc => by simp at hc; subst hc; exact ⟨c44.1, c44.2.1⟩)]
        simp
    have hp1 := ruleP_text f.fr h2 (44 :: f.to.txt) (fun c hc => by simp at hc; subst hc; exact c44)
    have hp2 := ruleP_text f.to h3 [] (fun c hc => by simp at hc)
    rw [List.append_nil] at hp2
    have hne : nameT f.wa ++ rest2 ≠ [] := by
      obtain ⟨c, t, e, _⟩ := nameT_head f.wa rest2 j1
      rw [e]; simp
    unfold Ft.parse
    rw [hu]
    simp only [if_neg hne, if_true]
    rw [hs]
    simp only [if_true]
    rw [hp1]
    simp only [if_true]
    rw [hp2]
    simp only [if_true]
    have ef := ft_eq f k2 j2 eh
    rw [ef]
    unfold Ft.chk
    rw [if_pos h0]
  · rw [if_neg eh] at h
    unfold Ft.txt
    rw [if_neg eh]
    have hu : usualP (nameT f.sa ++ ((clockL (-f.so)).1 ++ [])) = ⟨true, [], f.so, f.sa⟩ := by
      unfold usualP
      rw [nameP_name f.sa _ k1 (fun c hc => by obtain ⟨c', t, e, hd⟩ := cs []; rw [e] at hc; simp at hc; subst hc; exact dig_let hd)]
      simp only
      rw [time_clock (-f.so) (by omega) _ (fun c hc => by simp at hc)]
      simp
    unfold Ft.parse
    rw [hu]
    simp only [if_true]
    have hb := of_decide_eq_true h.2
    have ef : (⟨f.so, false, f.sa, 0, false, [], false, .z, .z⟩ : Ft) = f := by
      obtain ⟨b1, b2, b3, ⟨b4, b5, b6, b7, b8⟩, b9, b10, b11, b12, b13⟩ := hb
      obtain ⟨so, sd, sa, wo, wd, wa, has, ⟨fk, fa, fb, fc, fx⟩, ⟨tk, ta, tb, tc, tx⟩⟩ := f
      simp only at *
      simp at eh
      subst b1 b2 b3 b4 b5 b6 b7 b8 b9 b10 b11 b12 b13 eh k2
      rfl
    rw [ef]
    unfold Ft.chk
    rw [if_pos h0]
/-- What is read is right. -/
theorem parse_ok (l : List UInt8) : (Ft.parse l).2 = true → (Ft.parse l).1.ok = true := by
  have hc : ∀ f : Ft, f.chk.2 = true → f.chk.1.ok = true := fun f h => by
    unfold Ft.chk at *
    split at h
    · rename_i e; rw [if_pos e]; exact e
    · cases h
  unfold Ft.parse
  repeat' split
  all_goals first | exact hc _ | (intro h; cases h)
theorem parse_no (l : List UInt8) : (Ft.parse l).2 = false → (Ft.parse l).1 = .z := by
  have hc : ∀ f : Ft, f.chk.2 = false → f.chk.1 = .z := fun f h => by
    unfold Ft.chk at *
    split at h
    · cases h
    · rename_i e; rw [if_neg e]
  unfold Ft.parse
  repeat' split
  all_goals first | exact hc _ | (intro h; rfl)
end Go.Proofs.YtoiiblhbojhogaaGreatDoor.Pl
end
section
set_option linter.unusedVariables false
set_option linter.unusedSimpArgs false
namespace Go.Proofs.YtoiiblhbojhogaaGreatDoor
open Go Go.Proofs.YtoiiblhbojhogaaGreatDoor.Eng Go.Proofs.YtoiiblhbojhogaaGreatDoor.Pl
set_option linter.unusedVariables false
set_option linter.unusedSimpArgs false

abbrev tupRu (r : Ru) : Int × Int × Int × Int × Int × Unit := (r.k, r.a, r.b, r.c, r.x, ())
abbrev tupFt (f : Ft) : Int × Bool × ByteArray × Int × Bool × ByteArray × Bool × Int × Int × Int × Int × Int × Int × Int × Int × Int × Int × Unit :=
  (f.so, f.sd, S f.sa, f.wo, f.wd, S f.wa, f.has, f.fr.k, f.fr.a, f.fr.b, f.fr.c, f.fr.x, f.to.k, f.to.a, f.to.b, f.to.c, f.to.x, ())
theorem tupFt_all (a : Int × Bool × ByteArray × Int × Bool × ByteArray × Bool × Int × Int × Int × Int × Int × Int × Int × Int × Int × Int × Unit) : ∃ f, a = tupFt f := by
  obtain ⟨a1, a2, a3, a4, a5, a6, a7, a8, a9, a10, a11, a12, a13, a14, a15, a16, a17, _⟩ := a
  exact ⟨⟨a1, a2, a3.data.toList, a4, a5, a6.data.toList, a7, ⟨a8, a9, a10, a11, a12⟩, ⟨a13, a14, a15, a16, a17⟩⟩, by simp [tupFt, ← of_S]⟩
theorem letQ (c : UInt8) : (!decide ((97 ≤ (c.toNat : Int) ∧ (c.toNat : Int) ≤ 122) ∨ (65 ≤ (c.toNat : Int) ∧ (c.toNat : Int) ≤ 90))) = !letC c := by
  unfold letC; congr 1; apply Bool.eq_iff_iff.2; simp; omega
theorem letH (c : UInt8) (hc : 128 ≤ c.toNat) : (!letC c) = true := by
  unfold letC; simp; omega
theorem name_len (l : List UInt8) : (nameP l).2.2.length ≤ l.length ∧ (nameP l).1.length ≤ l.length := by
  unfold nameP splitL
  repeat' split
  all_goals simp
  all_goals omega
theorem time_bd (l : List UInt8) : -604799 ≤ (timeL l).1 ∧ (timeL l).1 ≤ 604799 ∧ (timeL l).2.1.length ≤ l.length := by
  obtain ⟨j, _, e, _, h1, h2, _⟩ := time_drop l
  rw [e, List.length_drop]; exact ⟨h1, h2, by omega⟩
theorem cut_len (c : UInt8) (l : List UInt8) : (cutP c l).1.length ≤ l.length := by
  unfold cutP; split
  · rw [List.length_tail]; omega
  · exact Nat.le_refl _
theorem rule_len (l : List UInt8) : (ruleP l).rest.length ≤ l.length := by
  have hc := cut_len 44 l
  unfold ruleP
  simp only
  cases e : (parseL (cutP 44 l).1).2.2.2.2.2.2
  · rw [parse_bad _ e]; exact hc
  · obtain ⟨_, j, _, h1, h2⟩ := parse_good _ e
    rw [h2, List.length_drop]; omega
theorem usual_len (l : List UInt8) : (usualP l).rest.length ≤ l.length ∧ -604799 ≤ (usualP l).o ∧ (usualP l).o ≤ 604799 := by
  have hn := name_len l
  have ht := time_bd (nameP l).2.2
  unfold usualP
  simp only
  omega
theorem summer_len (so : Int) (l : List UInt8) : (summerP so l).rest.length ≤ l.length := by
  have hn := name_len l
  have ht := time_bd (nameP l).2.2
  unfold summerP
  split <;> simp only <;> omega
end Go.Proofs.YtoiiblhbojhogaaGreatDoor
end
section
set_option linter.unusedVariables false
set_option linter.unusedSimpArgs false
namespace Go.Proofs.YtoiiblhbojhogaaGreatDoor
open Go Go.Proofs.YtoiiblhbojhogaaGreatDoor.Eng Go.Proofs.YtoiiblhbojhogaaGreatDoor.Pl
set_option linter.unusedVariables false
set_option linter.unusedSimpArgs false

theorem kind_iff {o : Int} {d : Bool} {l : List UInt8} {w : Bool} : kindR o d l w = true ↔ abbrL l = true ∧ d = w ∧ -89999 ≤ o ∧ o ≤ 89999 := by
  unfold kindR; simp [and_assoc]
theorem abbr_len {l : List UInt8} (h : abbrL l = true) : 3 ≤ l.length ∧ l.length ≤ 16 := by
  unfold abbrL at h; simp at h; omega
theorem nameT_len {l : List UInt8} : (nameT l).length ≤ l.length + 2 := by
  unfold nameT; split
  · simp
  · omega
end Go.Proofs.YtoiiblhbojhogaaGreatDoor
end
section
set_option linter.unusedVariables false
set_option linter.unusedSimpArgs false
namespace Go.Proofs.YtoiiblhbojhogaaGreatDoor
open Go Go.Proofs.YtoiiblhbojhogaaGreatDoor.Eng Go.Proofs.YtoiiblhbojhogaaGreatDoor.Pl
set_option linter.unusedVariables false
set_option linter.unusedSimpArgs false

theorem forFt {Q : Int × Bool × ByteArray × Int × Bool × ByteArray × Bool × Int × Int × Int × Int × Int × Int × Int × Int × Int × Int × Unit → Prop} (h : ∀ f, Q (tupFt f)) (a) : Q a := by
  obtain ⟨f, rfl⟩ := tupFt_all a
  exact h f
def i64 (n : Int) : Prop := -9223372036854775808 ≤ n ∧ n ≤ 9223372036854775807
theorem wf64 {n : Int} (h : (Lit.int .i64 n).wf = true) : i64 n := by
  simp [Lit.wf, IntKind.min, IntKind.max, IntKind.bits, IntKind.signed] at h
  unfold i64; omega
theorem toB {b : Bool} {K : Bool → Prop} (h : K true) (hb : b = true) : K b := by rw [hb]; exact h
theorem ok_so {f : Ft} (h : f.ok = true) : -89999 ≤ f.so ∧ f.so ≤ 89999 ∧ f.sd = false ∧ abbrL f.sa = true := by
  unfold Ft.ok at h
  rw [Bool.and_eq_true] at h
  obtain ⟨k1, k2, k3, k4⟩ := kind_all.1 h.1
  exact ⟨k3, k4, k2, k1⟩
theorem ok_bare {f : Ft} (h : f.ok = true) : (⟨f.so, f.sd, f.sa, 0, false, [], false, .z, .z⟩ : Ft).ok = true := by
  unfold Ft.ok at *
  rw [Bool.and_eq_true] at h
  simp only [h.1, Bool.true_and]
  rfl
theorem sDate (n : Int) {K} (h : ∀ y m d ok, ((-719162 ≤ n ∧ n ≤ 2932896) ∧ y = yearP n ∧ m = monP n ∧ d = dayP n ∧ ok = true) ∨ (¬ (-719162 ≤ n ∧ n ≤ 2932896) ∧ y = 0 ∧ m = 0 ∧ d = 0 ∧ ok = false) → K y m d ok) : Xday_Date n K :=
  sday n (ifC (fun e => h _ _ _ _ (.inl ⟨e, rfl, rfl, rfl, rfl⟩)) fun e => h _ _ _ _ (.inr ⟨e, rfl, rfl, rfl, rfl⟩))
theorem toList_iff {a b : ByteArray} : a.toList = b.toList ↔ a = b := by
  constructor
  · intro h
    rw [of_S a, of_S b] at h ⊢
    rw [S_toList, S_toList] at h
    rw [h]
  · intro h; rw [h]
theorem eq_ty (r : Int × Bool × ByteArray × Unit) (o : Int) (d : Bool) (s : ByteArray) : ((r.1 == o && (r.2.1 == d && (r.2.2.1.toList == s.toList && true))) = true) = (r = (o, d, s, ())) := by
  obtain ⟨a, b, c, _⟩ := r
  simp [toList_iff]
theorem eq_ty' (r q : Int × Bool × ByteArray × Unit) : ((r.1 == q.1 && (r.2.1 == q.2.1 && (r.2.2.1.toList == q.2.2.1.toList && true))) = true) = (r = q) := by
  obtain ⟨a, b, c, _⟩ := q
  exact eq_ty r a b c
theorem not_true (b : Bool) : ((!b) = true) = ¬ (b = true) := by cases b <;> simp
end Go.Proofs.YtoiiblhbojhogaaGreatDoor
end
section
set_option linter.unusedVariables false
set_option linter.unusedSimpArgs false
namespace Go.Proofs.YtoiiblhbojhogaaGreatDoor
open Go Go.Proofs.YtoiiblhbojhogaaGreatDoor.Eng Go.Proofs.YtoiiblhbojhogaaGreatDoor.Pl
set_option linter.unusedVariables false
set_option linter.unusedSimpArgs false

theorem rleap (y : Int) {K} (h : K (leapY y)) : Xepactref03_Leap y K := by
  unfold Xepactref03_Leap Yepactref03_Leap
  obtain ⟨t1, t2, t3⟩ := tmod_leap y
  have fin : ∀ z : Bool, (z = true ↔ (y % 4 = 0 ∧ (y % 100 ≠ 0 ∨ y % 400 = 0))) → K z := fun z hz => cast (congrArg K (Bool.eq_iff_iff.2 ((leapY_iff y).trans hz.symm))) h
  simp only [beq_iff_eq, bne_iff_ne, ne_eq, t1, t2]
  refine ifC (fun h1 => ifC (fun h2 => fin _ ?_) fun h2 => fin _ ?_) fun h1 => fin _ ?_
  · simp; omega
  · rw [beq_iff_eq, t3]; omega
  · rw [beq_iff_eq, t3]; omega
theorem rdays (y m : Int) (h1 : 1 ≤ m) (h2 : m ≤ 12) {K} (h : K (dim y m)) : Xepactref03_days y m K := by
  unfold Xepactref03_days Yepactref03_days
  rw [w64_in (by omega) (by omega)]
  rcases month_cases h1 h2 with rfl | rfl | rfl | rfl | rfl | rfl | rfl | rfl | rfl | rfl | rfl | rfl
  all_goals first
    | exact ifF (by decide) (ifT (by decide) h)
    | (refine ifT rfl (rleap _ ?_)
       unfold dim at h
       rw [if_pos rfl] at h
       refine ifC (fun hl => ?_) fun hl => ifT (by decide) ?_
       · rw [if_pos hl] at h; exact h
       · rw [if_neg hl] at h; exact h)
theorem rlast (y m : Int) {K} (h : K (if 1 ≤ y ∧ y ≤ 9999 ∧ 1 ≤ m ∧ m ≤ 12 then dim y m else 0) (decide (1 ≤ y ∧ y ≤ 9999 ∧ 1 ≤ m ∧ m ≤ 12))) : Xepactref03_Last y m K := by
  unfold Xepactref03_Last Yepactref03_Last
  simp only [decide_eq_true_eq, gt_iff_lt]
  by_cases e : 1 ≤ y ∧ y ≤ 9999 ∧ 1 ≤ m ∧ m ≤ 12
  · rw [if_pos e, decide_eq_true e] at h
    exact ifF (by omega) (ifF (by omega) (ifF (by omega) (ifF (by omega) (rdays _ _ (by omega) (by omega) h))))
  · rw [if_neg e, decide_eq_false e] at h
    exact ifC (fun _ => h) fun _ => ifC (fun _ => h) fun _ => ifC (fun _ => h) fun _ => ifT (by omega) h
theorem rfirst (y : Int) (h1 : 1 ≤ y) (h2 : y ≤ 10001) {K} (h : K (fst y)) : Xepactref03_first y K := by
  unfold Xepactref03_first Yepactref03_first
  unfold fst at h
  simp only [lt]
  simp (disch := omega) only [w64_in, Int.tdiv_eq_ediv_of_nonneg]
  exact h
theorem cum_one (y : Int) : cum y 1 = 0 := by unfold cum cum0; simp
theorem cum_bd (y m : Int) (h1 : 1 ≤ m) (h2 : m ≤ 12) : 0 ≤ cum y m ∧ cum y m ≤ 335 := by
  unfold cum cum0
  rcases month_cases h1 h2 with rfl | rfl | rfl | rfl | rfl | rfl | rfl | rfl | rfl | rfl | rfl | rfl
  all_goals (simp only [if_true, if_false, Int.reduceEq]; split <;> omega)
theorem rnum (y m d : Int) (hd0 : -9223372036854775808 ≤ d) (hd1 : d ≤ 9223372036854775807) {K} (h : K (if okD y m d then num y m d else 0) (decide (okD y m d))) : Xepactref03_Number y m d K := by
  unfold Xepactref03_Number Yepactref03_Number
  refine rlast _ _ ?_
  simp only [decide_eq_true_eq, gt_iff_lt, lt]
  by_cases e : 1 ≤ y ∧ y ≤ 9999 ∧ 1 ≤ m ∧ m ≤ 12
  · rw [decide_eq_true e, if_pos e]
    refine ifF (by simp) ?_
    by_cases e2 : 1 ≤ d ∧ d ≤ dim y m
    · have ok : okD y m d := ⟨e.1, e.2.1, e.2.2.1, e.2.2.2, e2.1, e2.2⟩
      rw [if_pos ok, decide_eq_true ok] at h
      have hd := dim_bd y m
      have hf := fst_bd e.1 e.2.1
      have hf2 := fst_le (y := y) (z := y + 1) (by omega)
      refine ifF (by omega) (ifF (by omega) (rfirst y (by omega) (by omega) ?_))
      rw [w64_in (n := fst y + d) (by omega) (by omega), w64_in (n := fst y + d - 1) (by omega) (by omega)]
      refine lp_at (fun j : Nat => ((y, m, (0 : Int), false, fst y + d - 1 + cum y (1 + j), (1 + j : Int), ()), ())) (m - 1).toNat (by simp [cum_one]) fun j hj k hk => ?_
      unfold Lepactref03_Number_0
      simp only [decide_eq_true_eq]
      have hc := cum_bd y (1 + j) (by omega) (by omega)
      by_cases hlt : (1 + j : Int) < m
      · refine ifT hlt (rdays _ _ (by omega) (by omega) ?_)
        have hs := cum_succ y (1 + j) (by omega) (by omega)
        rw [if_neg (by omega)] at hs
        have hdj := dim_bd y (1 + j)
        have := hk (by omega)
        rw [w64_in (by omega) (by omega), w64_in (by omega) (by omega)]
        refine cast (congrArg k ?_) this
        simp only [Prod.mk.injEq, and_true, true_and]
        constructor
        · rw [show (1 : Int) + ((j + 1 : Nat) : Int) = 1 + j + 1 by omega]; omega
        · omega
      · refine ifF hlt ?_
        have : (1 + j : Int) = m := by omega
        rw [this]
        unfold num at h
        rw [show fst y + d - 1 + cum y m = fst y + cum y m + d - 1 by omega]; exact h
    · have ok : ¬ okD y m d := fun h => e2 h.2.2.2.2
      rw [if_neg ok, decide_eq_false ok] at h
      exact ifC (fun _ => h) fun _ => ifT (by omega) h
  · have ok : ¬ okD y m d := fun h => e ⟨h.1, h.2.1, h.2.2.1, h.2.2.2.1⟩
    rw [if_neg ok, decide_eq_false ok] at h
    rw [decide_eq_false e]
    exact ifT rfl h
theorem rdiv (a b : Int) (h0 : -9223372036854775808 ≤ a) (h1 : a ≤ 9223372036854775807) (hb : 1 ≤ b) (hb' : b ≤ 9223372036854775807) {K} (h : K (a / b) (a % b) true) : Xepactref01_Div a b K := sdiv a b h0 h1 hb hb' h
theorem rdate (n : Int) {K} (h : if -719162 ≤ n ∧ n ≤ 2932896 then K (yearP n) (monP n) (dayP n) true else K 0 0 0 false) : Xepactref03_Date n K := by
  unfold Xepactref03_Date Yepactref03_Date
  simp only [decide_eq_true_eq, gt_iff_lt, lt]
  by_cases e : -719162 ≤ n ∧ n ≤ 2932896
  · rw [if_pos e] at h
    refine ifF (by omega) (ifF (by omega) ?_)
    obtain ⟨hv, hn⟩ := num_date e.1 e.2
    have hb := num_bd hv
    rw [hn] at hb
    obtain ⟨v1, v2, v3, v4, v5, v6⟩ := hv
    generalize yearP n = y at *
    generalize monP n = m at *
    generalize dayP n = d at *
    rw [show n - -719162 = n + 719162 by omega, w64_in (n := n + 719162) (by omega) (by omega), Int.tdiv_eq_ediv_of_nonneg (by omega), w64_in (n := (n + 719162) / 366) (by omega) (by omega), w64_in (by omega) (by omega)]
    have hy0 : (n + 719162) / 366 + 1 ≤ y := by
      have h2 := hb.2
      unfold fst at h2
      omega
    refine lp_at (fun j : Nat => ((n, (0 : Int), (0 : Int), (0 : Int), false, (n + 719162) / 366 + 1 + (j : Int), ()), ())) (y - ((n + 719162) / 366 + 1)).toNat (by simp) fun j hj k hk => ?_
    unfold Lepactref03_Date_0
    simp only [decide_eq_true_eq, ge_iff_le]
    rw [w64_in (by omega) (by omega)]
    refine rfirst _ (by omega) (by omega) ?_
    by_cases hlt : (n + 719162) / 366 + 1 + (j : Int) < y
    · have hle := fst_le (y := (n + 719162) / 366 + 1 + (j : Int) + 1) (z := y) (by omega)
      refine ifT (by omega) ?_
      have := hk (by omega)
      rw [show (n + 719162) / 366 + 1 + ((j + 1 : Nat) : Int) = (n + 719162) / 366 + 1 + (j : Int) + 1 by omega] at this
      exact this
    · have ey : (n + 719162) / 366 + 1 + (j : Int) = y := by omega
      rw [ey]
      refine ifF (by omega) (rfirst _ (by omega) (by omega) ?_)
      have hf := fst_bd v1 v2
      rw [w64_in (n := n - fst y) (by omega) (by omega)]
      refine lp_at (fun i : Nat => (((0 : Int), (0 : Int), (0 : Int), false, y, n - fst y - cum y (1 + i), (1 + i : Int), ()), ())) (m - 1).toNat (by simp [cum_one]) fun i hi k hk => ?_
      unfold Lepactref03_Date_1
      simp only [decide_eq_true_eq, ge_iff_le]
      have hnum : n = fst y + cum y m + d - 1 := by rw [← hn]; rfl
      have hc := cum_bd y (1 + i) (by omega) (by omega)
      have hcm := cum_bd y m (by omega) (by omega)
      have hdm := dim_bd y m
      refine rdays _ _ (by omega) (by omega) ?_
      by_cases hl2 : (1 + i : Int) < m
      · have hs := cum_succ y (1 + i) (by omega) (by omega)
        rw [if_neg (by omega)] at hs
        have mono : ∀ (q : Nat) (a : Int), 1 ≤ a → a + q ≤ 12 → cum y a ≤ cum y (a + q) := by
          intro q
          induction q with
          | zero => intro a _ _; simp
          | succ q ih =>
            intro a h1 h2
            have h3 := ih a h1 (by omega)
            have h4 := cum_mono y (a + q) (by omega) (by omega)
            rw [show a + ((q + 1 : Nat) : Int) = a + q + 1 by omega]; omega
        have hm := mono (m - (1 + i + 1)).toNat (1 + i + 1) (by omega) (by omega)
        rw [show (1 + i + 1 : Int) + (((m - (1 + i + 1)).toNat : Nat) : Int) = m by omega] at hm
        have hc2 := cum_bd y (1 + i + 1) (by omega) (by omega)
        refine ifT (by omega) (rdays _ _ (by omega) (by omega) ?_)
        have := hk (by omega)
        rw [w64_in (by omega) (by omega), w64_in (by omega) (by omega)]
        rw [show (1 : Int) + ((i + 1 : Nat) : Int) = 1 + i + 1 by omega] at this
        rw [show n - fst y - cum y (1 + i) - dim y (1 + i) = n - fst y - cum y (1 + i + 1) by omega]
        exact this
      · have em : (1 + i : Int) = m := by omega
        rw [em]
        refine ifF (by omega) ?_
        rw [w64_in (by omega) (by omega), show n - fst y - cum y m + 1 = d by omega]; exact h
  · rw [if_neg e] at h
    exact ifC (fun _ => h) fun _ => ifT (by omega) h
end Go.Proofs.YtoiiblhbojhogaaGreatDoor
end
section
set_option linter.unusedVariables false
set_option linter.unusedSimpArgs false
namespace Go.Proofs.YtoiiblhbojhogaaGreatDoor
open Go Go.Proofs.YtoiiblhbojhogaaGreatDoor.Eng Go.Proofs.YtoiiblhbojhogaaGreatDoor.Pl
set_option linter.unusedVariables false
set_option linter.unusedSimpArgs false
set_option maxRecDepth 100000
set_option maxHeartbeats 2000000

theorem big {n : Nat} {P : Prop} (hn : n ≤ 1000000000) (h : P) : if ((n : Nat) : Int) > 9223372036854775807 then False else P := by
  rw [if_neg (by omega)]; exact h
theorem room (n k : Nat) (hn : n ≤ 1000000000) (hk : k ≤ 64) : roomOk n k = true := by
  unfold roomOk; rw [decide_eq_true_eq]
  have : (n + 1000) * k ≤ 1000001000 * 64 := Nat.mul_le_mul (by omega) hk
  omega
theorem qTrim (l : List UInt8) (hl : l.length ≤ 1000000000) {K} (h : K (S (trimR l))) : Xepactref05_trimmed (S l) K := by
  unfold Xepactref05_trimmed Yepactref05_trimmed
  unfold trimR at h
  simp only [S_size, decide_eq_true_eq, lt]
  by_cases e : 0 < l.length
  · have w1 : w64 ((l.length : Int) - 1) = ((l.length - 1 : Nat) : Int) := by rw [w64_in (by omega) (by omega)]; omega
    rw [if_pos (by omega), w1, if_pos (by omega), Int.toNat_natCast, show ((13 : Int)) = (((13 : UInt8).toNat : Nat) : Int) from rfl, bAtD _ _ (by omega), S_extract, List.drop_zero, Nat.sub_zero]
    have e2 : l.getLast? = some (l[l.length - 1]'(by omega)) := by rw [List.getLast?_eq_getElem?, List.getElem?_eq_getElem (by omega)]
    rw [e2, List.dropLast_eq_take] at h
    by_cases e3 : l[l.length - 1]'(by omega) = 13
    · rw [if_pos (by simp [e3]), if_pos (by omega), if_pos (by omega)]
      rw [if_pos (by rw [e3])] at h; exact h
    · rw [if_neg (by simp [e3])]
      rw [if_neg (by simp [e3])] at h; exact h
  · have : l = [] := by cases l <;> simp at e ⊢
    subst this
    rw [if_neg (by simp)]; exact h
theorem lines_cons (a r : List UInt8) (h : (10 : UInt8) ∉ a) : linesL (a ++ 10 :: r) = trimR a :: linesL r := by
  unfold linesL
  rw [spl_app 10 a r h]
  have hne := spl_ne 10 r
  match hs : spl 10 r with
  | [] => exact absurd hs hne
  | x :: t =>
    rw [List.getLast?_cons_cons, List.dropLast_cons_cons]
    split <;> rfl
theorem lines_last (a : List UInt8) (h : (10 : UInt8) ∉ a) : linesL a = if a = [] then [] else [trimR a] := by
  have : spl 10 a = [a] := by rw [← splN_spl 10 a.length a List.count_le_length, splN_no 10 _ a h]
  unfold linesL
  rw [this]
  by_cases e : a = []
  · subst e; rfl
  · rw [if_neg (by simp [e]), if_neg e]; rfl
theorem WV_snoc (d : List (List UInt8)) (w : List UInt8) : WV d ++ [V.c (.string (S w))] = WV (d ++ [w]) := by simp [WV]
theorem qSplit (l : List UInt8) (hl : l.length ≤ 1000000) {K} (h : K (WV (linesL l)) true false) : Xepactref05_Split (S l) K := by
  unfold Xepactref05_Split Yepactref05_Split
  refine lp_ind (fun x => l.length - x.1.2.2.2.2.1.toNat) (fun x => ∃ (i f : Nat) (d : List (List UInt8)), f ≤ i ∧ i ≤ l.length ∧ d.length ≤ i ∧ (∀ c ∈ (l.drop f).take (i - f), c ≠ 10) ∧ linesL l = d ++ linesL (l.drop f) ∧
    x = ((S l, (), (), (f : Int), (i : Int), ()), WV d, ())) ?_ ⟨0, 0, [], by omega, by omega, by simp, by simp, rfl, rfl⟩
  rintro x ⟨i, f, d, hf, hi, hd, hno, hL, rfl⟩ k hk
  unfold Lepactref05_Split_0
  simp only [S_size, S_extract, Int.toNat_natCast, WV_len, List.length_singleton]
  have w1 : w64 ((i : Int) + 1) = ((i + 1 : Nat) : Int) := by rw [w64_in (by omega) (by omega)]; omega
  by_cases e : i < l.length
  · rw [if_pos (decide_eq_true (by omega)), if_pos (by omega), show ((10 : Int)) = (((10 : UInt8).toNat : Nat) : Int) from rfl, bAtD _ _ e, w1]
    by_cases e1 : l[i] = 10
    · rw [if_pos (by simp [e1]), if_pos (by omega), if_pos (by omega)]
      refine qTrim _ (by simp; omega) ?_
      rw [if_pos (room _ _ (by omega) (by omega)), WV_snoc]
      refine hk _ ⟨i + 1, i + 1, _, Nat.le_refl _, by omega, by simp; omega, by simp, ?_, rfl⟩ (by show l.length - Int.toNat ((i + 1 : Nat) : Int) < l.length - Int.toNat (i : Int); omega)
      have es : l.drop f = (l.drop f).take (i - f) ++ 10 :: l.drop (i + 1) := by
        conv => lhs; rw [← List.take_append_drop (i - f) (l.drop f)]
        rw [List.drop_drop, show f + (i - f) = i by omega, List.drop_eq_getElem_cons e, e1]
      rw [hL, es, lines_cons _ _ (fun hh => hno _ hh rfl)]
      rw [← es]; simp
    · rw [if_neg (by simp [e1])]
      refine hk _ ⟨i + 1, f, d, by omega, by omega, by omega, fun c hc => ?_, hL, rfl⟩ (by show l.length - Int.toNat ((i + 1 : Nat) : Int) < l.length - Int.toNat (i : Int); omega)
      rw [show i + 1 - f = (i - f) + 1 by omega, List.take_succ_eq_append_getElem (by simp; omega), List.mem_append, List.mem_singleton] at hc
      rcases hc with hc | rfl
      · exact hno c hc
      · simp only [List.getElem_drop, show f + (i - f) = i by omega]; exact e1
  · have : i = l.length := by omega
    subst this
    rw [if_neg (dneg (by omega))]
    have e0 : (l.drop f).take (l.length - f) = l.drop f := List.take_of_length_le (by simp)
    rw [e0] at hno
    rw [lines_last _ (fun hh => hno _ hh rfl)] at hL
    by_cases e2 : f < l.length
    · rw [if_pos (decide_eq_true (by omega)), if_pos (by omega), if_pos (by omega), e0]
      rw [if_neg (fun hh => by have := congrArg List.length hh; simp at this; omega)] at hL
      refine qTrim _ (by simp; omega) ?_
      rw [if_pos (room _ _ (by omega) (by omega)), WV_snoc, ← hL]; exact h
    · rw [if_neg (dneg (by omega))]
      rw [if_pos (by simp; omega), List.append_nil] at hL
      rw [← hL]; exact h
theorem qCut (l : List UInt8) (c : UInt8) (hl : l.length ≤ 140737488351232) {K} (h : K (S (splitL c l).1) (S (splitL c l).2.1) (splitL c l).2.2) : Xepactref05_Cut (S l) (S [c]) K := by
  unfold Xepactref05_Cut Yepactref05_Cut
  have hn := nl_le (· == c) l
  refine lp_at (fun j : Nat => ((S l, S [c], ByteArray.mk #[], ByteArray.mk #[], false, (j : Int), ()), ())) (nl (· == c) l) rfl fun j hj k hk => ?_
  unfold Lepactref05_Cut_0
  unfold splitL at h
  simp only [decide_eq_true_eq, S_size, S_extract, S_toList, List.length_singleton]
  rw [w64_in (n := (j : Int) + ((1 : Nat) : Int)) (by omega) (by omega)]
  by_cases hjl : j < l.length
  · refine ifT (by omega) (ifT (by simp) (ifT (by omega) (ifT (by omega) ?_)))
    have e1 : Int.toNat ((j : Int) + ((1 : Nat) : Int)) = j + 1 := by omega
    have e2 : (l.drop j).take (j + 1 - j) = [l[j]] := by
      rw [List.drop_eq_getElem_cons hjl, show j + 1 - j = 1 by omega]; rfl
    simp only [lt, e1, Int.toNat_natCast, e2, List.drop_zero, Nat.sub_zero, take_all]
    by_cases hlt : j < nl (· == c) l
    · have hg := (nl_spec (· == c) l j hjl).1 hlt
      refine ifF (by simpa using hg) ?_
      rw [w64_in (n := (j : Int) + 1) (by omega) (by omega)]
      exact hk hlt
    · have hg := (nl_spec (· == c) l j hjl).2 (by omega)
      have ej : nl (· == c) l = j := by omega
      rw [ej, if_pos hjl] at h
      refine ifT (by simpa using hg) (ifT (by omega) (ifT (by omega) (ifT (by omega) (ifT (by omega) h))))
  · rw [if_neg (by omega)] at h
    exact ifF (by omega) h
theorem qBlank (c : UInt8) {K} (h : K (blankB c)) : Xepactref05_blank (c.toNat : Int) K := by
  unfold Xepactref05_blank Yepactref05_blank
  unfold blankB at h
  have e (x : UInt8) : ((c.toNat : Int) == (x.toNat : Int)) = (c == x) := by
    rw [Bool.eq_iff_iff, beq_iff_eq, beq_iff_eq]
    exact ⟨fun e => u8_eq (by omega), fun e => by rw [e]⟩
  rw [show (32 : Int) = (((32 : UInt8).toNat : Nat) : Int) from rfl, show (9 : Int) = (((9 : UInt8).toNat : Nat) : Int) from rfl, e, e]
  cases e1 : c == 32
  · rw [if_neg (by simp)]; rw [e1] at h; exact h
  · rw [if_pos rfl]; rw [e1] at h; exact h
theorem bAtC (l : List UInt8) (i : Nat) (h : i < l.length) : Eng.bAt (S l) i = (l[i].toNat : Int) := by rw [bAt_S, getD_in _ _ _ h]
theorem qWords (l : List UInt8) (hl : l.length ≤ 1000000) {K} (h : K (WV (wordsL l)) true false) : Xepactref05_Words (S l) K := by
  unfold Xepactref05_Words Yepactref05_Words
  refine lp_ind (fun x => l.length + 1 - x.1.2.2.2.1.toNat) (fun x => ∃ (i : Nat) (d : List (List UInt8)), i ≤ l.length + 1 ∧ d.length ≤ i ∧ wordsL l = d ++ wordsL (l.drop i) ∧
    x = ((S l, (), (), (i : Int), ()), WV d, ())) ?_ ⟨0, [], by omega, by simp, rfl, rfl⟩
  rintro x ⟨i, d, hi, hd, hL, rfl⟩ k hk
  unfold Lepactref05_Words_0
  dsimp only
  rw [S_size, Int.toNat_natCast]
  have w1 : w64 ((i : Int) + 1) = ((i + 1 : Nat) : Int) := by rw [w64_in (by omega) (by omega)]; omega
  by_cases e : i < l.length
  · rw [if_pos (decide_eq_true (by omega)), if_pos (by omega), bAtC _ _ e]
    refine qBlank _ ?_
    rw [List.drop_eq_getElem_cons e] at hL
    by_cases eb : blankB l[i] = true
    · rw [if_pos eb, w1]
      refine hk _ ⟨i + 1, d, by omega, by omega, ?_, rfl⟩ (by show l.length + 1 - Int.toNat ((i + 1 : Nat) : Int) < l.length + 1 - Int.toNat (i : Int); omega)
      rw [hL]; unfold wordsL; rw [wd, if_pos eb, if_pos rfl]
    · rw [if_neg eb]
      refine lp_ind (fun x => l.length - x.1.2.2.2.1.toNat) (fun x => ∃ j : Nat, i ≤ j ∧ j ≤ l.length ∧ (∀ c ∈ (l.drop i).take (j - i), blankB c = false) ∧ (i = j → i < l.length ∧ blankB (l.getD i 0) = false) ∧
        x = ((S l, (), (), (j : Int), (i : Int), ()), WV d, ())) ?_ ⟨i, by omega, by omega, by simp, fun _ => ⟨e, by rw [getD_in _ _ _ e]; simpa using eb⟩, rfl⟩
      rintro x ⟨j, hij, hj, hb, hs, rfl⟩ k2 hk2
      unfold Lepactref05_Words_1
      simp only [S_size, S_extract, Int.toNat_natCast, WV_len, List.length_singleton]
      have w2 : w64 ((j : Int) + 1) = ((j + 1 : Nat) : Int) := by rw [w64_in (by omega) (by omega)]; omega
      rw [w2]
      have done : ∀ (rest : List (List UInt8)), i < j → wd ((l.drop i).take (j - i)) (l.drop j) = (l.drop i).take (j - i) :: rest → rest = wordsL (l.drop (j + 1)) →
          k ((S l, (), (), ((j + 1 : Nat) : Int), ()), WV (d ++ [(l.drop i).take (j - i)]), ()) := fun rest hlt hw hr => by
        refine hk _ ⟨j + 1, _, by omega, by simp; omega, ?_, rfl⟩ (by show l.length + 1 - Int.toNat ((j + 1 : Nat) : Int) < l.length + 1 - Int.toNat (i : Int); omega)
        have := wd_skip ((l.drop i).take (j - i)) [] (l.drop j) hb
        have ea : (l.drop i).take (j - i) ++ l.drop j = l.drop i := by
          conv => rhs; rw [← List.take_append_drop (j - i) (l.drop i)]
          rw [List.drop_drop, show i + (j - i) = j by omega]
        rw [ea, List.nil_append, hw, hr] at this
        rw [← List.drop_eq_getElem_cons e] at hL
        rw [hL]
        have e0 : wordsL (l.drop i) = (l.drop i).take (j - i) :: wordsL (l.drop (j + 1)) := this
        rw [e0]; simp
      have ne : i < j → (l.drop i).take (j - i) ≠ [] := fun hlt hh => by have := congrArg List.length hh; simp at this; omega
      by_cases ej : j < l.length
      · rw [if_pos (decide_eq_true (by omega)), if_pos (by omega), bAtC _ _ ej]
        refine qBlank _ ?_
        cases eb2 : blankB l[j]
        · rw [if_pos (by rfl)]
          refine hk2 _ ⟨j + 1, by omega, by omega, fun c hc => ?_, fun hh => by omega, rfl⟩ (by show l.length - Int.toNat ((j + 1 : Nat) : Int) < l.length - Int.toNat (j : Int); omega)
          rw [show j + 1 - i = (j - i) + 1 by omega, List.take_succ_eq_append_getElem (by simp; omega), List.mem_append, List.mem_singleton] at hc
          rcases hc with hc | rfl
          · exact hb c hc
          · simp only [List.getElem_drop, show i + (j - i) = j by omega]; exact eb2
        · have hlt : i < j := by
            rcases Nat.lt_or_ge i j with hlt | hge
            · exact hlt
            · have : i = j := by omega
              have := (hs this).2
              rw [‹i = j›, getD_in _ _ _ ej, eb2] at this; cases this
          rw [if_neg (by simp), if_pos (by omega), if_pos (by omega), if_pos (room _ _ (by omega) (by omega)), WV_snoc]
          refine done (wordsL (l.drop (j + 1))) hlt ?_ rfl
          rw [List.drop_eq_getElem_cons ej, wd, if_pos eb2, if_neg (ne hlt)]; rfl
      · have : j = l.length := by omega
        subst this
        have hlt : i < l.length := e
        rw [if_neg (dneg (by omega)), if_pos (by omega), if_pos (by omega), if_pos (room _ _ (by omega) (by omega)), WV_snoc]
        refine done [] hlt ?_ ?_
        · rw [List.drop_length, wd, if_neg (ne hlt)]
        · rw [List.drop_eq_nil_of_le (by omega)]; rfl
  · rw [if_neg (dneg (by omega))]
    rw [List.drop_eq_nil_of_le (by omega)] at hL
    have : wordsL l = d := by rw [hL]; simp [wordsL, wd]
    rw [this] at h; exact h
theorem B8_snoc (l : List UInt8) (c : UInt8) : B8 l ++ [V.c (.int .u8 (c.toNat : Int))] = B8 (l ++ [c]) := by simp [B8]
theorem qFold (l : List UInt8) (hl : l.length ≤ 1000000) {K} (h : K (S (foldLw l))) : Xepactref05_Fold (S l) K := by
  unfold Xepactref05_Fold Yepactref05_Fold
  refine lp_at (fun j : Nat => ((S l, ByteArray.mk #[], (), (j : Int), ()), B8 (foldLw (l.take j)), ())) l.length rfl fun j hj k hk => ?_
  unfold Lepactref05_Fold_0
  have l1 : (B8 (foldLw (l.take j))).length = j := by rw [B8_len, fold_len]; simp; omega
  simp only [S_size, Int.toNat_natCast, l1, List.length_singleton]
  by_cases e : j < l.length
  · have w1 : w64 ((j : Int) + 1) = ((j + 1 : Nat) : Int) := by rw [w64_in (by omega) (by omega)]; omega
    rw [if_pos (decide_eq_true (by omega)), if_pos (by omega)]
    simp only [bAtC _ _ e, w1]
    have hc := l[j].toNat_lt
    have := hk e
    rw [List.take_succ_eq_append_getElem e] at this
    unfold foldLw at this l1 ⊢
    rw [List.map_append, List.map_cons, List.map_nil, ← B8_snoc] at this
    unfold lowB at this
    have rm : roomOk (j + 1) 1 = true := room _ _ (by omega) (by omega)
    by_cases c1 : 65 ≤ l[j].toNat
    · rw [if_pos (decide_eq_true (by omega))]
      by_cases c2 : l[j].toNat ≤ 90
      · rw [if_pos (decide_eq_true (by omega)), if_pos rm]
        rw [if_pos ⟨c1, c2⟩] at this
        have e8 : wu8 ((l[j].toNat : Int) + 32) = ((UInt8.ofNat (l[j].toNat + 32)).toNat : Int) := by
          rw [wu8_in (by omega) (by omega)]; simp; omega
        simp only [lt, e8]
        exact this
      · rw [if_neg (dneg (by omega)), if_pos rm]
        rw [if_neg (by omega)] at this; exact this
    · rw [if_neg (dneg (by omega)), if_pos rm]
      rw [if_neg (by omega)] at this; exact this
  · have : j = l.length := by omega
    subst this
    rw [if_neg (dneg (by omega)), if_pos (B8_all _), B8_pack, List.take_length]; exact h
theorem qNumber (l : List UInt8) (hl : l.length ≤ 1000000) {K} (h : K (numL l).1 (numL l).2) : Xepactref05_Number (S l) K := by
  unfold Xepactref05_Number Yepactref05_Number
  unfold numL at h
  refine lp_ind (fun x => l.length - x.1.2.2.2.2.1.toNat) (fun x => ∃ i : Nat, i ≤ l.length ∧ (l.take i).all isDig = true ∧ valL (l.take i) ≤ 9223372036854775807 ∧ x = ((S l, 0, false, (valL (l.take i) : Int), (i : Int), ()), ())) ?_ ⟨0, by omega, rfl, by simp [valL], rfl⟩
  rintro x ⟨i, hi, hd, hv, rfl⟩ k hk
  unfold Lepactref05_Number_0
  dsimp only
  rw [S_size, Int.toNat_natCast]
  by_cases e : i < l.length
  · have hc := l[i].toNat_lt
    rw [if_pos (decide_eq_true (by omega)), if_pos (by omega), bAtC _ _ e]
    have w0 : w64 (l[i].toNat : Int) = (l[i].toNat : Int) := w64_in (by omega) (by omega)
    have w1 : w64 ((l[i].toNat : Int) - 48) = (l[i].toNat : Int) - 48 := w64_in (by omega) (by omega)
    have w2 : w64 ((i : Int) + 1) = ((i + 1 : Nat) : Int) := by rw [w64_in (by omega) (by omega)]; omega
    simp only [lt, w0, w1, w2]
    have bad : isDig l[i] = false → K 0 false := fun hb => by
      rw [if_neg] at h
      · exact h
      · intro hh
        have := List.all_eq_true.1 hh.2.1 _ (List.getElem_mem e)
        rw [hb] at this; cases this
    by_cases c1 : (l[i].toNat : Int) - 48 < 0
    · rw [if_pos (decide_eq_true c1)]
      exact bad (by simp [isDig]; omega)
    rw [if_neg (dneg c1)]
    by_cases c2 : (l[i].toNat : Int) - 48 > 9
    · rw [if_pos (decide_eq_true c2)]
      exact bad (by simp [isDig]; omega)
    rw [if_neg (dneg c2)]
    have w3 : w64 (Int.tdiv (w64 (9223372036854775807 - ((l[i].toNat : Int) - 48))) 10) = (9223372036854775807 - ((l[i].toNat : Int) - 48)) / 10 := by
      rw [w64_in (n := 9223372036854775807 - ((l[i].toNat : Int) - 48)) (by omega) (by omega), Int.tdiv_eq_ediv_of_nonneg (by omega), w64_in (by omega) (by omega)]
    rw [w3]
    have hval := val_take l i e
    have hpre := val_pre l (i + 1)
    by_cases c3 : (valL (l.take i) : Int) > (9223372036854775807 - ((l[i].toNat : Int) - 48)) / 10
    · rw [if_pos (decide_eq_true c3)]
      rw [if_neg (fun hh => by have := hh.2.2; omega)] at h; exact h
    · rw [if_neg (dneg c3)]
      have w4 : w64 (w64 (10 * (valL (l.take i) : Int)) + ((l[i].toNat : Int) - 48)) = (valL (l.take (i + 1)) : Int) := by
        rw [w64_in (n := 10 * (valL (l.take i) : Int)) (by omega) (by omega), w64_in (by omega) (by omega), hval]; omega
      rw [w4]
      refine hk _ ⟨i + 1, e, ?_, by omega, rfl⟩ (by show l.length - Int.toNat ((i + 1 : Nat) : Int) < l.length - Int.toNat (i : Int); omega)
      rw [List.take_succ_eq_append_getElem e, List.all_append, hd]
      simp [isDig]; omega
  · have : i = l.length := by omega
    subst this
    rw [List.take_length] at hd hv ⊢
    rw [if_neg (dneg (by omega)), kS_nil]
    by_cases hn : l = []
    · subst hn; simpa [valL] using h
    · rw [if_pos ⟨hn, hd, hv⟩] at h
      have : (!l.isEmpty) = true := by cases l <;> simp at hn ⊢
      rw [this]; exact h
theorem qBegins (a b : List UInt8) {K} (h : K (preB b a)) : Xepactref11_begins (S a) (S b) K := by
  unfold Xepactref11_begins Yepactref11_begins
  simp only [S_size, S_extract, S_toList, Int.toNat_natCast, List.drop_zero, Nat.sub_zero]
  unfold preB at h
  by_cases e : a.length ≤ b.length
  · rw [if_pos (decide_eq_true (by omega)), if_pos (by omega)]; exact h
  · rw [if_neg (dneg (by omega))]
    have : (b.take a.length == a) = false := by
      simp only [beq_eq_false_iff_ne]
      intro hh
      have := congrArg List.length hh
      simp at this; omega
    rw [this] at h; exact h
theorem qMonths {K : List V → Bool → Bool → Prop} (h : K (WV monNames) true false) : Xepactref11_months K := h
theorem qMonth (s : List UInt8) (hl : s.length ≤ 1000000) {K} (h : K (monthL s).1 (monthL s).2) : Xepactref11_Month (S s) K := by
  unfold Xepactref11_Month Yepactref11_Month
  refine qFold s hl (qMonths ?_)
  unfold monthL at h
  have fl := fold_len s
  generalize foldLw s = f at *
  refine lp_ind (fun x => 12 - x.1.2.2.2.2.1.toNat) (fun x => ∃ n : Nat, n ≤ 12 ∧ monG f n (monNames.drop n) = monG f 0 monNames ∧ x = ((0, false, S f, (), (n : Int), ()), (WV monNames, true, false), ())) ?_ ⟨0, by omega, rfl, rfl⟩
  rintro x ⟨n, hn, hm, rfl⟩ k hk
  unfold Lepactref11_Month_0
  dsimp only
  rw [S_size, WV_len, Int.toNat_natCast, show monNames.length = 12 from rfl]
  by_cases e : n < 12
  · have w1 : w64 ((n : Int) + 1) = ((n + 1 : Nat) : Int) := by rw [w64_in (by omega) (by omega)]; omega
    have e' : n < monNames.length := e
    rw [if_pos (decide_eq_true (by omega)), w1]
    rw [List.drop_eq_getElem_cons e', monG] at hm
    have next : monG f (n + 1) (monNames.drop (n + 1)) = monG f 0 monNames → k ((0, false, S f, (), ((n + 1 : Nat) : Int), ()), (WV monNames, true, false), ()) := fun hh =>
      hk _ ⟨n + 1, e, hh, rfl⟩ (by show 12 - Int.toNat ((n + 1 : Nat) : Int) < 12 - Int.toNat (n : Int); omega)
    by_cases c : f.length > 2
    · rw [if_pos (decide_eq_true (by omega)), if_pos (by omega)]
      refine asW e' (qBegins _ _ ?_)
      rw [decide_eq_true c, Bool.true_and] at hm
      cases hp : preB monNames[n] f
      · rw [hp, if_neg (by simp)] at hm
        rw [if_neg (by simp)]
        exact next hm
      · rw [hp, if_pos rfl] at hm
        rw [if_pos rfl]
        rw [← hm] at h
        rw [show ((n + 1 : Nat) : Int) = (n : Int) + 1 by omega]; exact h
    · rw [if_neg (dneg (by omega))]
      rw [decide_eq_false c, Bool.false_and, if_neg (by simp)] at hm
      exact next hm
  · have : n = 12 := by omega
    subst this
    rw [if_neg (dneg (by omega))]
    rw [← hm] at h; exact h
theorem qSecond (a b c : Int) (ha : 0 ≤ a ∧ a ≤ 99) (hb : 0 ≤ b ∧ b ≤ 99) (hc : 0 ≤ c ∧ c ≤ 99) {K} (h : K (secondL a b c).1 (secondL a b c).2) : Xepactref04_Second a b c K := by
  unfold Xepactref04_Second Yepactref04_Second
  have w : w64 (w64 (w64 (3600 * a) + w64 (60 * b)) + c) = 3600 * a + 60 * b + c := by
    rw [w64_in (n := 3600 * a) (by omega) (by omega), w64_in (n := 60 * b) (by omega) (by omega), w64_in (n := 3600 * a + 60 * b) (by omega) (by omega), w64_in (by omega) (by omega)]
  simp only [lt, w, beq_iff_eq, decide_eq_true_eq]
  unfold secondL at h
  have val : ¬ (a = 23 ∧ b = 59 ∧ c = 60) → a ≤ 23 → b ≤ 59 → c ≤ 59 → K (3600 * a + 60 * b + c) true := fun h1 h2 h3 h4 => by
    rw [if_neg h1, if_pos (by omega)] at h
    rw [show 3600 * a + 60 * b + c = a * 3600 + b * 60 + c by omega]; exact h
  have no : ¬ (a = 23 ∧ b = 59 ∧ c = 60) → (a > 23 ∨ b > 59 ∨ c > 59) → K 0 false := fun h1 h2 => by
    rw [if_neg h1, if_neg (by omega)] at h; exact h
  by_cases a1 : a = 23
  · rw [if_pos a1]
    by_cases b1 : b = 59
    · rw [if_pos b1, if_neg (by omega), if_neg (by omega), if_neg (by omega), if_neg (by omega), if_neg (by omega)]
      by_cases c1 : c > 59
      · rw [if_pos c1]
        by_cases c2 : c = 60
        · rw [if_neg (by simp [c2])]
          rw [if_pos ⟨a1, b1, c2⟩] at h
          rw [show 3600 * a + 60 * b + c = 86400 by omega]; exact h
        · rw [if_pos (by simp [c2])]
          exact no (by omega) (by omega)
      · rw [if_neg c1]; exact val (by omega) (by omega) (by omega) (by omega)
    · rw [if_neg b1, if_neg (by omega), if_neg (by omega), if_neg (by omega)]
      by_cases b2 : b > 59
      · rw [if_pos b2]; exact no (by omega) (by omega)
      rw [if_neg b2, if_neg (by omega)]
      by_cases c1 : c > 59
      · rw [if_pos c1]; exact no (by omega) (by omega)
      · rw [if_neg c1]; exact val (by omega) (by omega) (by omega) (by omega)
  · rw [if_neg a1, if_neg (by omega)]
    by_cases a2 : a > 23
    · rw [if_pos a2]; exact no (by omega) (by omega)
    rw [if_neg a2, if_neg (by omega)]
    by_cases b2 : b > 59
    · rw [if_pos b2]; exact no (by omega) (by omega)
    rw [if_neg b2, if_neg (by omega)]
    by_cases c1 : c > 59
    · rw [if_pos c1]; exact no (by omega) (by omega)
    · rw [if_neg c1]; exact val (by omega) (by omega) (by omega) (by omega)
theorem split_len (c : UInt8) (l : List UInt8) : (splitL c l).1.length ≤ l.length ∧ (splitL c l).2.1.length ≤ l.length := by
  unfold splitL; split <;> simp <;> omega
theorem clock_cuts (s : List UInt8) : zclockL s = if ((splitL 58 s).2.2 = true ∧ (splitL 58 (splitL 58 s).2.1).2.2 = true) ∧ (two (splitL 58 s).1 && two (splitL 58 (splitL 58 s).2.1).1 && two (splitL 58 (splitL 58 s).2.1).2.1) = true then
    secondL (numL (splitL 58 s).1).1 (numL (splitL 58 (splitL 58 s).2.1).1).1 (numL (splitL 58 (splitL 58 s).2.1).2.1).1 else (0, false) := by
  unfold zclockL
  rw [splN]
  unfold splitL
  by_cases e1 : nl (· == (58 : UInt8)) s < s.length
  · simp only [if_pos e1]
    rw [splN]
    generalize s.drop (nl (· == (58 : UInt8)) s + 1) = r
    by_cases e2 : nl (· == (58 : UInt8)) r < r.length
    · simp only [if_pos e2, splN, true_and]
    · simp only [if_neg e2]
      rw [if_neg (by simp)]
  · simp only [if_neg e1]
    rw [if_neg (by simp)]
theorem qClock (s : List UInt8) (hl : s.length ≤ 1000000) {K} (h : K (zclockL s).1 (zclockL s).2) : Xepactref11_Clock (S s) K := by
  unfold Xepactref11_Clock Yepactref11_Clock
  rw [clock_cuts] at h
  have l1 := split_len 58 s
  have l2 := split_len 58 (splitL 58 s).2.1
  refine qCut s 58 (by omega) (qCut _ 58 (by omega) ?_)
  generalize splitL 58 s = p at *
  generalize splitL 58 p.2.1 = q at *
  refine qNumber _ (by omega) (qNumber _ (by omega) (qNumber _ (by omega) ?_))
  rw [S_size, S_size, S_size]
  have no : ¬ ((p.2.2 = true ∧ q.2.2 = true) ∧ (two p.1 && two q.1 && two q.2.1) = true) → K 0 false := fun hn => by rw [if_neg hn] at h; exact h
  cases e1 : p.2.2
  · rw [if_pos (by rfl)]; exact no (by simp [e1])
  rw [if_neg (by simp)]
  cases e2 : q.2.2
  · rw [if_pos (by rfl)]; exact no (by simp [e2])
  rw [if_neg (by simp)]
  cases e3 : (numL p.1).2
  · rw [if_pos (by rfl)]; exact no (by simp [two, e3])
  rw [if_neg (by simp)]
  cases e4 : (numL q.1).2
  · rw [if_pos (by rfl)]; exact no (by simp [two, e4])
  rw [if_neg (by simp)]
  cases e5 : (numL q.2.1).2
  · rw [if_pos (by rfl)]; exact no (by simp [two, e5])
  rw [if_neg (by simp)]
  by_cases e6 : p.1.length ≤ 2
  · rw [if_neg (dneg (by omega))]
    by_cases e7 : q.1.length ≤ 2
    · rw [if_neg (dneg (by omega))]
      by_cases e8 : q.2.1.length ≤ 2
      · rw [if_neg (dneg (by omega))]
        have t1 : two p.1 = true := by simp [two, e3, e6]
        have t2 : two q.1 = true := by simp [two, e4, e7]
        have t3 : two q.2.1 = true := by simp [two, e5, e8]
        rw [if_pos ⟨⟨e1, e2⟩, by rw [t1, t2, t3]; rfl⟩] at h
        exact qSecond _ _ _ (two_bd t1) (two_bd t2) (two_bd t3) h
      · rw [if_pos (decide_eq_true (by omega))]; exact no (by simp [two, e8])
    · rw [if_pos (decide_eq_true (by omega))]; exact no (by simp [two, e7])
  · rw [if_pos (decide_eq_true (by omega))]; exact no (by simp [two, e6])
theorem qWords11 (l : List UInt8) (hl : l.length ≤ 1000000) {K} (h : K (WV (wordsL (bareL l))) true false) : Xepactref11_words (S l) K := by
  unfold Xepactref11_words Yepactref11_words
  refine qCut l 35 (by omega) ?_
  have : (splitL 35 l).1 = bareL l := by
    unfold splitL bareL
    split
    · rfl
    · rename_i hh
      have := nl_le (· == (35 : UInt8)) l
      rw [List.take_of_length_le (by omega)]
  rw [this]
  have := bare_len l
  exact qWords _ (by omega) h
/-- A row of the document's answer. -/
def qrow (w : List (List UInt8)) : Int × Int × Int × Int × Int × ByteArray × Bool × Unit :=
  if w = [] then (0, 0, 0, 0, 0, S [], false, ()) else if (readW w).2 = false then (3, 0, 0, 0, 0, S [], false, ()) else ((readW w).1.kind + 1, (readW w).1.y, (readW w).1.m, (readW w).1.d, (readW w).1.sec, S (readW w).1.sign, (readW w).1.roll, ())
theorem qRead (l : List UInt8) (hl : l.length ≤ 1000000) {K} (h : K (qrow (wordsL (bareL l)))) : Xepactref11_read (S l) K := by
  rw [Xepactref11_read, Yepactref11_read]
  refine qWords11 l hl ?_
  have hw : ∀ w ∈ wordsL (bareL l), w.length ≤ 1000000 := fun w hw => by
    have h1 := ((wd_len (bareL l) []).2 w hw).1
    have h2 := bare_len l
    simp at h1; omega
  generalize wordsL (bareL l) = ws at *
  rw [WV_len]
  unfold qrow at h
  by_cases e0 : ws = []
  · rw [if_pos e0] at h
    rw [if_pos (by simp [e0])]; exact h
  rw [if_neg e0] at h
  have h1 : 1 ≤ ws.length := List.length_pos_iff.2 e0
  have hw' : ∀ i, i < ws.length → (ws.getD i []).length ≤ 1000000 := fun i hi => by rw [getD_in _ _ _ hi]; exact hw _ (List.getElem_mem _)
  rw [if_neg (by simp; omega), if_pos (by omega)]
  refine asWd (by omega) (qFold _ (hw' 0 (by omega)) ?_)
  have bad : (readW ws).2 = false → K (3, 0, 0, 0, 0, ByteArray.mk #[], false, ()) := fun hb => by rw [if_pos hb] at h; exact h
  simp only [kS_eq _ [108, 101, 97, 112], kS_eq _ [101, 120, 112, 105, 114, 101, 115], lt]
  generalize e5 : foldLw (ws.getD 0 []) = f0 at *
  have dates : ∀ {k : Int}, 5 ≤ ws.length → ∀ {Q : Int → Bool → Int → Bool → Int → Bool → Int → Bool → Prop}, Q (numL (ws.getD 1 [])).1 (numL (ws.getD 1 [])).2 (monthL (ws.getD 2 [])).1 (monthL (ws.getD 2 [])).2 (numL (ws.getD 3 [])).1 (numL (ws.getD 3 [])).2 (zclockL (ws.getD 4 [])).1 (zclockL (ws.getD 4 [])).2 →
      (if 0 ≤ (1 : Int) ∧ (1 : Int) < (ws.length : Int) then Eng.asStr (getC (WV ws) 1 0) False fun t6 => Xepactref05_Number t6 fun r7 r8 =>
        (if 0 ≤ (2 : Int) ∧ (2 : Int) < (ws.length : Int) then Eng.asStr (getC (WV ws) 2 0) False fun t9 => Xepactref11_Month t9 fun r10 r11 =>
          (if 0 ≤ (3 : Int) ∧ (3 : Int) < (ws.length : Int) then Eng.asStr (getC (WV ws) 3 0) False fun t12 => Xepactref05_Number t12 fun r13 r14 =>
            (if 0 ≤ (4 : Int) ∧ (4 : Int) < (ws.length : Int) then Eng.asStr (getC (WV ws) 4 0) False fun t15 => Xepactref11_Clock t15 fun r16 r17 => Q r7 r8 r10 r11 r13 r14 r16 r17 else False) else False) else False) else False) := fun {k} h5 {Q} hq => by
    rw [if_pos (by omega)]
    refine asWd (by omega) (qNumber _ (hw' 1 (by omega)) ?_)
    rw [if_pos (by omega)]
    refine asWd (by omega) (qMonth _ (hw' 2 (by omega)) ?_)
    rw [if_pos (by omega)]
    refine asWd (by omega) (qNumber _ (hw' 3 (by omega)) ?_)
    rw [if_pos (by omega)]
    exact asWd (by omega) (qClock _ (hw' 4 (by omega)) hq)
  by_cases x1 : f0 = [108, 101, 97, 112]
  · subst x1
    rw [if_pos (by rfl)]
    by_cases x2 : ws.length = 7
    · rw [if_pos (by simp; omega)]
      refine dates (k := 0) (by omega) ?_
      have er : readW ws = (⟨0, (numL (ws.getD 1 [])).1, (monthL (ws.getD 2 [])).1, (numL (ws.getD 3 [])).1, (zclockL (ws.getD 4 [])).1, ws.getD 5 [], (rollL (ws.getD 6 [])).1⟩, (decide (ws.getD 5 [] = [43] ∨ ws.getD 5 [] = [45])) && ((numL (ws.getD 1 [])).2 && (monthL (ws.getD 2 [])).2 && (numL (ws.getD 3 [])).2 && (zclockL (ws.getD 4 [])).2) && (rollL (ws.getD 6 [])).2) := by
        unfold readW; rw [e5, if_pos ⟨rfl, x2⟩]; rfl
      rw [er] at h bad
      dsimp only at h bad
      cases y1 : (numL (ws.getD 1 [])).2
      · rw [if_pos (by rfl)]; exact bad (by rw [y1]; simp)
      rw [if_neg (by simp)]
      cases y2 : (monthL (ws.getD 2 [])).2
      · rw [if_pos (by rfl)]; exact bad (by rw [y2]; simp)
      rw [if_neg (by simp)]
      cases y3 : (numL (ws.getD 3 [])).2
      · rw [if_pos (by rfl)]; exact bad (by rw [y3]; simp)
      rw [if_neg (by simp)]
      cases y4 : (zclockL (ws.getD 4 [])).2
      · rw [if_pos (by rfl)]; exact bad (by rw [y4]; simp)
      rw [if_neg (by simp), if_pos (by rfl), if_pos (by omega)]
      refine asWd (by omega) ?_
      rw [if_pos (by omega)]
      refine asWd (by omega) (qFold _ (hw' 6 (by omega)) (qBegins _ [114, 111, 108, 108, 105, 110, 103] ?_))
      rw [if_pos (by omega)]
      refine asWd (by omega) ?_
      rw [kS_eq _ [43]]
      simp only [y1, y2, y3, y4, Bool.and_true] at h bad
      have roll : (ws.getD 5 [] = [43] ∨ ws.getD 5 [] = [45]) → (if (!preB [114, 111, 108, 108, 105, 110, 103] (foldLw (ws.getD 6 []))) = true then
          Xepactref11_begins (S (foldLw (ws.getD 6 []))) (S [115, 116, 97, 116, 105, 111, 110, 97, 114, 121]) (fun r24 => if (!r24) = true then K (3, 0, 0, 0, 0, ByteArray.mk #[], false, ()) else K (1, (numL (ws.getD 1 [])).1, (monthL (ws.getD 2 [])).1, (numL (ws.getD 3 [])).1, (zclockL (ws.getD 4 [])).1, S (ws.getD 5 []), preB [114, 111, 108, 108, 105, 110, 103] (foldLw (ws.getD 6 [])), ()))
          else K (1, (numL (ws.getD 1 [])).1, (monthL (ws.getD 2 [])).1, (numL (ws.getD 3 [])).1, (zclockL (ws.getD 4 [])).1, S (ws.getD 5 []), preB [114, 111, 108, 108, 105, 110, 103] (foldLw (ws.getD 6 [])), ())) := fun hs => by
        rw [decide_eq_true hs] at h bad
        simp only [Bool.true_and] at h bad
        unfold rollL at h bad
        cases hp : preB [114, 111, 108, 108, 105, 110, 103] (foldLw (ws.getD 6 []))
        · rw [if_pos (by rfl)]
          simp only [hp, Bool.false_eq_true, if_false] at h bad
          refine qBegins _ _ ?_
          cases hq : preB [115, 116, 97, 116, 105, 111, 110, 97, 114, 121] (foldLw (ws.getD 6 []))
          · rw [if_pos (by rfl)]; exact bad hq
          · rw [if_neg (by simp)]
            simp only [hq, Bool.true_eq_false, if_false] at h; exact h
        · rw [if_neg (by simp)]
          simp only [hp, if_true, Bool.true_eq_false, if_false] at h; exact h
      by_cases z1 : ws.getD 5 [] = [43]
      · rw [if_neg (by rw [z1]; decide)]
        exact roll (.inl z1)
      · rw [if_pos (by simpa using z1), if_pos (by omega)]
        refine asWd (by omega) ?_
        rw [kS_eq _ [45]]
        by_cases z2 : ws.getD 5 [] = [45]
        · rw [if_neg (by rw [z2]; decide)]
          exact roll (.inr z2)
        · rw [if_pos (by simpa using z2)]
          exact bad (by rw [decide_eq_false (fun hh => hh.elim z1 z2)]; rfl)
    · rw [if_neg (by simp; omega), if_neg (by decide)]
      exact bad (by unfold readW; rw [e5, if_neg (fun hh => x2 hh.2), if_neg (fun hh => by have := hh.1; revert this; decide)])
  · rw [if_neg (by simp [x1])]
    have hno : ¬ (f0 = [108, 101, 97, 112] ∧ ws.length = 7) := fun hh => x1 hh.1
    by_cases x2 : f0 = [101, 120, 112, 105, 114, 101, 115]
    · subst x2
      rw [if_pos (by rfl)]
      by_cases x3 : ws.length = 5
      · rw [if_neg (by simp; omega)]
        refine dates (k := 1) (by omega) ?_
        have er : readW ws = (⟨1, (numL (ws.getD 1 [])).1, (monthL (ws.getD 2 [])).1, (numL (ws.getD 3 [])).1, (zclockL (ws.getD 4 [])).1, [], false⟩, ((numL (ws.getD 1 [])).2 && (monthL (ws.getD 2 [])).2 && (numL (ws.getD 3 [])).2 && (zclockL (ws.getD 4 [])).2)) := by
          unfold readW; rw [e5, if_neg hno, if_pos ⟨rfl, x3⟩]; rfl
        rw [er] at h bad
        dsimp only at h bad
        cases y1 : (numL (ws.getD 1 [])).2
        · rw [if_pos (by rfl)]; exact bad (by rw [y1]; simp)
        rw [if_neg (by simp)]
        cases y2 : (monthL (ws.getD 2 [])).2
        · rw [if_pos (by rfl)]; exact bad (by rw [y2]; simp)
        rw [if_neg (by simp)]
        cases y3 : (numL (ws.getD 3 [])).2
        · rw [if_pos (by rfl)]; exact bad (by rw [y3]; simp)
        rw [if_neg (by simp)]
        cases y4 : (zclockL (ws.getD 4 [])).2
        · rw [if_pos (by rfl)]; exact bad (by rw [y4]; simp)
        rw [if_neg (by simp), if_neg (by decide)]
        simp only [y1, y2, y3, y4, Bool.and_true] at h
        rw [if_neg (by simp)] at h; exact h
      · rw [if_pos (by simp; omega)]
        exact bad (by unfold readW; rw [e5, if_neg hno, if_neg (fun hh => x3 hh.2)])
    · rw [if_neg (by simp [x2])]
      exact bad (by unfold readW; rw [e5, if_neg hno, if_neg (fun hh => x2 hh.1)])
theorem qEnd (n : Int) {K} (h : K (endD n)) : Xepactref03_End n K := by
  unfold Xepactref03_End Yepactref03_End
  refine rdate n ?_
  unfold endD at h
  by_cases e : -719162 ≤ n ∧ n ≤ 2932896
  · rw [if_pos e]
    rw [decide_eq_true e, Bool.true_and] at h
    obtain ⟨⟨v1, v2, v3, v4, _⟩, _⟩ := num_date e.1 e.2
    rw [if_pos rfl]
    exact rdays _ _ v3 v4 h
  · rw [if_neg e]
    rw [decide_eq_false e, Bool.false_and] at h
    rw [if_neg (by simp)]; exact h
/-- The day ahead. -/
def aheadG (ls : List LR) (k : Nat) : Int := if k = 0 then 729 else (ls.getD (k - 1) (0, 0, false)).1
theorem qWrong (t : Tb) (k : Nat) (hk : k < t.ls.length) (hl : t.ls.length ≤ 1000000) {K} (h : K (wrongL k t.ls[k] (aheadG t.ls k))) : Xepactref09_wrong (TLV t.ls, t.has, t.ex, ()) (k : Int) K := by
  unfold Xepactref09_wrong Yepactref09_wrong
  dsimp only
  rw [TLV_len, if_pos (by omega), Int.toNat_natCast]
  refine asL1 hk (asL2 hk (asL3 hk ?_))
  unfold wrongL at h
  by_cases h1 : 200 ≤ k
  · rw [if_pos h1] at h; rw [if_pos (decide_eq_true (by omega))]; exact h
  rw [if_neg h1] at h; rw [if_neg (dneg (by omega))]
  by_cases h2 : (t.ls[k]).1 < 730
  · rw [if_pos (.inl h2)] at h
    rw [if_pos (decide_eq_true h2)]; exact h
  rw [if_neg (dneg h2)]
  by_cases h3 : (t.ls[k]).1 ≥ 2932896
  · rw [if_pos (.inr h3)] at h
    rw [if_pos (decide_eq_true h3)]; exact h
  rw [if_neg (dneg h3)]
  rw [if_neg (by omega)] at h
  refine qEnd _ ?_
  cases he : endD (t.ls[k]).1
  · rw [if_pos (by rfl)]; rw [if_pos he] at h; exact h
  rw [if_neg (by simp)]
  rw [if_neg (by simp [he])] at h
  have last : ((t.ls[k]).2.1 = 1 ∨ (t.ls[k]).2.1 = -1) → (if decide ((k : Int) > 0) = true then
      (if 0 ≤ w64 ((k : Int) - 1) ∧ w64 ((k : Int) - 1) < (t.ls.length : Int) then Eng.asInt .i64 (getC (TLV t.ls) (Int.toNat (w64 ((k : Int) - 1))) 0) False fun n6 => if decide ((t.ls[k]).1 ≤ n6) = true then K 4 else K 0 else False) else K 0) := fun hs => by
    rw [if_neg (by omega)] at h
    unfold aheadG at h
    by_cases k0 : k = 0
    · rw [if_neg (dneg (by omega))]
      rw [if_pos k0, if_neg (by omega)] at h; exact h
    · have w1 : w64 ((k : Int) - 1) = ((k - 1 : Nat) : Int) := by rw [w64_in (by omega) (by omega)]; omega
      rw [if_pos (decide_eq_true (by omega)), w1, if_pos (by omega), Int.toNat_natCast]
      have hk' : k - 1 < t.ls.length := by omega
      refine asL1 hk' ?_
      rw [if_neg k0, getD_in _ _ _ hk'] at h
      by_cases h6 : (t.ls[k]).1 ≤ (t.ls[k - 1]).1
      · rw [if_pos (decide_eq_true h6)]; rw [if_pos h6] at h; exact h
      · rw [if_neg (dneg h6)]; rw [if_neg h6] at h; exact h
  by_cases s1 : (t.ls[k]).2.1 = 1
  · rw [if_neg (by simp [s1])]; exact last (.inl s1)
  · rw [if_pos (by simpa using s1)]
    by_cases s2 : (t.ls[k]).2.1 = -1
    · rw [if_neg (by simp [s2])]; exact last (.inr s2)
    · rw [if_pos (by simpa using s2)]
      rw [if_pos ⟨s1, s2⟩] at h; exact h
theorem qCheck (t : Tb) (hl : t.ls.length ≤ 1000000) {K} (h : K ((checkT t).1 : Int) (checkT t).2) : Xepactref09_Check (TLV t.ls, t.has, t.ex, ()) K := by
  unfold Xepactref09_Check Yepactref09_Check
  unfold checkT at h
  refine lp_ind (fun x => t.ls.length - x.1.2.2.2.2.1.toNat) (fun x => ∃ (j : Nat) (a : Int), j ≤ t.ls.length ∧ a = aheadG t.ls j ∧ 729 ≤ a ∧ a ≤ 2932896 ∧ checkG j a (t.ls.drop j) = checkG 0 729 t.ls ∧
    x = (((), 0, 0, (a + 1) * 86400, (j : Int), ()), (TLV t.ls, t.has, t.ex, ()), ())) ?_ ⟨0, 729, by omega, rfl, by omega, by omega, rfl, rfl⟩
  rintro x ⟨j, a, hj, hag, ha, ha', hc, rfl⟩ k hk
  unfold Lepactref09_Check_0
  dsimp only
  rw [TLV_len, Int.toNat_natCast]
  by_cases e : j < t.ls.length
  · rw [if_pos (decide_eq_true (by omega))]
    refine qWrong t j e hl ?_
    rw [← hag]
    rw [List.drop_eq_getElem_cons e, checkG] at hc
    by_cases hw : wrongL j t.ls[j] a = 0
    · rw [if_neg (by simp [hw]), if_pos (by omega)]
      refine asL1 e ?_
      rw [if_neg (by simp [hw])] at hc
      obtain ⟨_, q1, q2, _⟩ := wrongL_0 hw
      have w1 : w64 ((j : Int) + 1) = ((j + 1 : Nat) : Int) := by rw [w64_in (by omega) (by omega)]; omega
      have w2 : w64 (86400 * w64 ((t.ls[j]).1 + 1)) = ((t.ls[j]).1 + 1) * 86400 := by rw [w64_in (n := (t.ls[j]).1 + 1) (by omega) (by omega), w64_in (by omega) (by omega)]; omega
      simp only [lt, w1, w2]
      refine hk _ ⟨j + 1, _, e, ?_, by omega, by omega, hc, rfl⟩ (by show t.ls.length - Int.toNat ((j + 1 : Nat) : Int) < t.ls.length - Int.toNat (j : Int); omega)
      unfold aheadG
      rw [if_neg (by omega), Nat.add_sub_cancel, getD_in _ _ _ e]
    · rw [if_pos (by simpa using hw)]
      rw [if_pos hw] at hc
      rw [← hc, if_pos hw] at h
      exact h
  · rw [if_neg (dneg (by omega))]
    have : j = t.ls.length := by omega
    subst this
    rw [List.drop_length, checkG] at hc
    rw [← hc, if_neg (by simp)] at h
    unfold expB at h
    dsimp only at h
    have em : (if 63072000 > (a + 1) * 86400 then 63072000 else (a + 1) * 86400) = (a + 1) * 86400 := by split <;> omega
    rw [em] at h
    cases hh : t.has
    · rw [hh] at h
      rw [if_neg (show ¬ (false = true) by simp)] at h
      rw [if_neg (show ¬ (false = true) by simp), if_pos (show (!false) = true from rfl)]
      by_cases h1 : t.ex = 0
      · rw [if_neg (by simp [h1])]
        rw [if_neg (by simp [h1])] at h; exact h
      · rw [if_pos (by simpa using h1)]
        rw [if_pos h1] at h; exact h
    · rw [hh, if_pos rfl] at h
      rw [if_pos rfl]
      by_cases h1 : t.ex < (a + 1) * 86400
      · rw [if_pos (decide_eq_true h1)]
        rw [if_pos (.inl h1)] at h; exact h
      rw [if_neg (dneg h1)]
      by_cases h2 : t.ex > 253402300799
      · rw [if_pos (decide_eq_true h2)]
        rw [if_pos (.inr h2)] at h; exact h
      rw [if_neg (dneg h2), if_neg (by simp)]
      rw [if_neg (by omega)] at h; exact h
theorem qRightT (t : Tb) (hl : t.ls.length ≤ 1000000) {K} (h : K (rightT t)) : Xepactref09_Right (TLV t.ls, t.has, t.ex, ()) K := by
  unfold Xepactref09_Right Yepactref09_Right
  exact qCheck t hl h
theorem qCopy (t : Tb) (hl : t.ls.length ≤ 1000000) {K} (h : K ((), t.has, t.ex, ()) (TLV t.ls) true false) : Xepactref09_Copy (TLV t.ls, t.has, t.ex, ()) K := by
  unfold Xepactref09_Copy Yepactref09_Copy
  dsimp only
  rw [TLV_len, if_pos (room _ _ (by omega) (by omega)), List.nil_append]; exact h
theorem qAdd (t : Tb) (l : LR) (hl : t.ls.length ≤ 100000) {K} (h : ∀ o f, K ((), t.has, t.ex, ()) (addT t l).2 (TLV (addT t l).1.ls) o f) : Xepactref09_Add (TLV t.ls, t.has, t.ex, ()) (l.1, l.2.1, l.2.2, ()) K := by
  unfold Xepactref09_Add Yepactref09_Add
  refine qCopy t (by omega) ?_
  dsimp only
  rw [if_pos rfl, TLV_len, List.length_singleton, if_pos (room _ _ (by omega) (by omega))]
  simp only [lt]
  have e1 : TLV t.ls ++ [Eng.V.agg [Eng.V.c (Value.int IntKind.i64 l.1), Eng.V.c (Value.int IntKind.i64 l.2.1), Eng.V.c (Value.bool l.2.2)]] = TLV (t.ls ++ [l]) := by simp [TLV, eLR]
  rw [e1]
  refine qCheck ⟨t.ls ++ [l], t.has, t.ex⟩ (by simp; omega) ?_
  unfold addT at h
  by_cases hc : (checkT ⟨t.ls ++ [l], t.has, t.ex⟩).2 = 0
  · rw [if_neg (by simp [hc])]
    simp only [hc] at h
    exact h _ _
  · rw [if_pos (by simpa using hc)]
    simp only [if_pos hc] at h
    exact qCopy t (by omega) (h _ _)
end Go.Proofs.YtoiiblhbojhogaaGreatDoor
end
section
set_option linter.unusedVariables false
set_option linter.unusedSimpArgs false
namespace Go.Proofs.YtoiiblhbojhogaaGreatDoor
open Go Go.Proofs.YtoiiblhbojhogaaGreatDoor.Eng Go.Proofs.YtoiiblhbojhogaaGreatDoor.Pl
set_option linter.unusedVariables false
set_option linter.unusedSimpArgs false
set_option maxRecDepth 100000
set_option maxHeartbeats 2000000

/-- A leap line's day, and the table behind it. -/
def addL (s : Src) (r : Row) : Src × Int := match dayN r.y r.m r.d with
  | none => (s, 9)
  | some n => leapW s r n
theorem qAdd11 (s : Src) (r : Row) (hd : 0 ≤ r.d ∧ r.d ≤ 9223372036854775807) (hl : s.ls.length ≤ 100000) {K} (h : ∀ o f, K ((), false, 0, ()) (addL s r).2 (TLV (addL s r).1.ls) o f) :
    Xepactref11_add (TLV s.ls, false, 0, ()) (1, r.y, r.m, r.d, r.sec, S r.sign, r.roll, ()) K := by
  unfold Xepactref11_add Yepactref11_add
  dsimp only
  refine rnum _ _ _ (by omega) hd.2 ?_
  unfold addL at h
  have hdn : dayN r.y r.m r.d = if okD r.y r.m r.d then some (num r.y r.m r.d) else none := rfl
  rw [hdn] at h
  by_cases hk : okD r.y r.m r.d
  · simp only [if_pos hk] at h ⊢
    rw [if_neg (by simp [hk])]
    generalize num r.y r.m r.d = n at *
    rw [kS_eq _ [43], kS_eq _ [45]]
    unfold leapW at h
    have minus : ¬ (r.sign = [43] ∧ r.sec = 86400) → (if (r.sign == [45]) = true then
        (if (r.sec == 86399) = true then Xepactref09_Add (TLV s.ls, false, 0, ()) (n, (-1), r.roll, ()) (fun r9 r10 r11 r12 r13 => K ((), r9.2) r10 r11 r12 r13) else K ((), false, 0, ()) 6 (TLV s.ls) false true)
        else K ((), false, 0, ()) 6 (TLV s.ls) false true) := fun hno => by
      simp only [if_neg hno] at h
      by_cases h1 : r.sign = [45]
      · rw [if_pos (by simp [h1])]
        by_cases h2 : r.sec = 86399
        · rw [if_pos (by simp [h2])]
          simp only [if_pos (show r.sign = [45] ∧ r.sec = 86399 from ⟨h1, h2⟩)] at h
          exact qAdd ⟨s.ls, false, 0⟩ (n, -1, r.roll) hl h
        · rw [if_neg (by simp [h2])]
          simp only [if_neg (show ¬ (r.sign = [45] ∧ r.sec = 86399) from fun hh => h2 hh.2)] at h
          exact h _ _
      · rw [if_neg (by simp [h1])]
        simp only [if_neg (show ¬ (r.sign = [45] ∧ r.sec = 86399) from fun hh => h1 hh.1)] at h
        exact h _ _
    by_cases h1 : r.sign = [43]
    · rw [if_pos (by simp [h1])]
      by_cases h2 : r.sec = 86400
      · rw [if_pos (by simp [h2])]
        simp only [if_pos (show r.sign = [43] ∧ r.sec = 86400 from ⟨h1, h2⟩)] at h
        exact qAdd ⟨s.ls, false, 0⟩ (n, 1, r.roll) hl h
      · rw [if_neg (by simp [h2])]
        exact minus (fun hh => h2 hh.2)
    · rw [if_neg (by simp [h1])]
      exact minus (fun hh => h1 hh.1)
  · simp only [if_neg hk] at h ⊢
    rw [if_pos (by simp [hk])]
    exact h _ _
theorem qParse (s : List UInt8) (hs : s.length ≤ 90000) {K} (h : ∀ o f, K ((), (zparseL s).1.has, (zparseL s).1.ex, ()) ((zparseL s).2.1, (zparseL s).2.2, ()) (TLV (zparseL s).1.ls) o f) : Xepactref11_Parse (S s) K := by
  rw [Xepactref11_Parse, Yepactref11_Parse]
  refine qSplit s (by omega) ?_
  obtain ⟨q1, q2⟩ := linesL_len s
  unfold zparseL at h
  generalize linesL s = L at *
  refine lp_ind (fun x => L.length - x.1.2.2.2.2.2.2.1.toNat) (fun x => ∃ (j : Nat) (c : Src), j ≤ L.length ∧ c.ls.length ≤ j ∧ (0 ≤ c.at' ∧ c.at' ≤ j) ∧ parseG j c (L.drop j) = parseG 0 src0 L ∧
    x = (((), (), (), (), c.at', c.til, (j : Int), ()), ([], false, 0, ()), (0, 0, ()), (TLV c.ls, false, 0, ()), (WV L, true, false), ())) ?_ ⟨0, src0, by omega, by simp [src0], by simp [src0], rfl, rfl⟩
  rintro x ⟨j, c, hj, hc, ha, hp, rfl⟩ k hk
  rw [Lepactref11_Parse_0]
  dsimp only
  rw [WV_len, Int.toNat_natCast]
  by_cases e : j < L.length
  · rw [if_pos (decide_eq_true (by omega)), if_pos (by omega)]
    refine asW e ?_
    have hL := q2 _ (List.getElem_mem e)
    have w1 : w64 ((j : Int) + 1) = ((j + 1 : Nat) : Int) := by rw [w64_in (by omega) (by omega)]; omega
    refine qRead _ (by omega) ?_
    rw [List.drop_eq_getElem_cons e, parseG] at hp
    rw [w1]
    have hlen := lineW_len c (j + 1) (wordsL (bareL L[j]))
    have hat := lineW_at c (j + 1) (wordsL (bareL L[j])) (by omega)
    generalize wordsL (bareL L[j]) = ws at *
    have fault : ∀ e, (lineW c (j + 1) ws).2 = e → ws ≠ [] → e ≠ 0 → K ((), false, 0, ()) (((j + 1 : Nat) : Int), e, ()) [] true true := fun er h1 h2 h3 => by
      rw [if_neg h2, h1, if_pos h3] at hp
      rw [← hp] at h
      have := h true true
      simpa [tb0, TLV] using this
    have next : ∀ (c' : Src), ws ≠ [] → lineW c (j + 1) ws = (c', 0) → k (((), (), (), (), c'.at', c'.til, ((j + 1 : Nat) : Int), ()), ([], false, 0, ()), (0, 0, ()), (TLV c'.ls, false, 0, ()), (WV L, true, false), ()) := fun c' h1 h2 => by
      rw [if_neg h1, h2, if_neg (by simp)] at hp
      rw [h2] at hlen hat
      exact hk _ ⟨j + 1, c', e, by dsimp only at hlen; omega, hat, hp, rfl⟩ (by show L.length - Int.toNat ((j + 1 : Nat) : Int) < L.length - Int.toNat (j : Int); omega)
    unfold qrow
    by_cases hw : ws = []
    · rw [if_pos hw] at hp
      simp only [if_pos hw]
      rw [if_neg (by decide), if_neg (by decide), if_neg (by decide)]
      exact hk _ ⟨j + 1, c, e, by omega, by omega, hp, rfl⟩ (by show L.length - Int.toNat ((j + 1 : Nat) : Int) < L.length - Int.toNat (j : Int); omega)
    simp only [if_neg hw]
    obtain ⟨b1, b2, b3, b4⟩ := readW_bd ws
    cases ok : (readW ws).2
    · simp only [if_true]
      rw [if_neg (by decide), if_neg (by decide), if_pos (by decide)]
      exact fault 2 (by unfold lineW; rw [if_pos (.inl ok)]) hw (by decide)
    simp only [Bool.true_eq_false, if_false]
    have b2 := b2 ok
    have hd : dayN (readW ws).1.y (readW ws).1.m (readW ws).1.d = if okD (readW ws).1.y (readW ws).1.m (readW ws).1.d then some (num (readW ws).1.y (readW ws).1.m (readW ws).1.d) else none := rfl
    rcases b2 with k0 | k1
    · have el : lineW c (j + 1) ws = addL c (readW ws).1 := by
        unfold lineW addL
        rw [if_neg (by rw [ok, k0]; simp)]
        split
        · rename_i hh; rw [hh]
        · rename_i hh; rw [hh]; dsimp only; rw [if_pos k0]
      have hat' : (addL c (readW ws).1).1.at' = c.at' ∧ (addL c (readW ws).1).1.til = c.til := by
        unfold addL; split
        · exact ⟨rfl, rfl⟩
        · unfold leapW; split
          · exact ⟨rfl, rfl⟩
          · split <;> exact ⟨rfl, rfl⟩
      simp only [k0]
      rw [if_pos (by decide)]
      refine qAdd11 c (readW ws).1 ⟨b3, b4⟩ (by omega) fun o f => ?_
      rw [if_neg (by decide), if_neg (by decide)]
      by_cases he : (addL c (readW ws).1).2 = 0
      · rw [if_neg (by simp [he])]
        have := next (addL c (readW ws).1).1 hw (by rw [el]; exact Prod.ext rfl he)
        rw [hat'.1, hat'.2] at this
        exact this
      · rw [if_pos (by simpa using he)]
        exact fault _ (by rw [el]) hw he
    · simp only [k1]
      rw [if_neg (by decide), if_pos (by decide)]
      refine rnum _ _ _ (by omega) b4 ?_
      have lk : lineW c (j + 1) ws = if c.at' > 0 then (c, (2 : Int)) else match dayN (readW ws).1.y (readW ws).1.m (readW ws).1.d with
          | none => (c, 9)
          | some n => if (readW ws).1.sec = 86400 then (c, 9) else (⟨c.ls, ((j + 1 : Nat) : Int), n * 86400 + (readW ws).1.sec⟩, 0) := by
        unfold lineW
        rw [ok, k1]
        by_cases a1 : c.at' > 0
        · rw [if_pos (.inr ⟨rfl, a1⟩), if_pos a1]
        · rw [if_neg (by simp [a1]), if_neg a1]
          cases dayN (readW ws).1.y (readW ws).1.m (readW ws).1.d
          · rfl
          · simp
      rw [hd] at lk
      generalize (readW ws).1 = r at *
      by_cases hk' : okD r.y r.m r.d
      · rw [if_pos hk'] at lk ⊢
        dsimp only at lk
        rw [decide_eq_true hk', if_neg (by simp)]
        by_cases s0 : r.sec = 86400
        · rw [if_pos (by simp [s0])]
          rw [if_pos s0] at lk
          by_cases a1 : c.at' > 0
          · rw [if_pos (decide_eq_true a1)]
            simp only [lt]
            rw [if_neg (by decide)]
            exact fault 2 (by rw [lk, if_pos a1]) hw (by decide)
          · rw [if_neg (dneg a1)]
            simp only [lt]
            rw [if_neg (by decide)]
            exact fault 9 (by rw [lk, if_neg a1]) hw (by decide)
        · rw [if_neg (by simp [s0])]
          rw [if_neg s0] at lk
          by_cases a1 : c.at' > 0
          · rw [if_pos (decide_eq_true a1)]
            simp only [lt]
            rw [if_neg (by decide)]
            exact fault 2 (by rw [lk, if_pos a1]) hw (by decide)
          · rw [if_neg (dneg a1)]
            simp only [lt]
            rw [if_neg (by decide)]
            have nr := num_range (show Vld r.y r.m r.d from hk')
            rw [w64_in (n := 86400 * num r.y r.m r.d) (by omega) (by omega), w64_in (by omega) (by omega), show 86400 * num r.y r.m r.d + r.sec = num r.y r.m r.d * 86400 + r.sec by omega]
            rw [if_neg a1] at lk
            exact next _ hw lk
      · rw [if_neg hk'] at lk ⊢
        dsimp only at lk
        rw [decide_eq_false hk', if_pos (by rfl)]
        by_cases a1 : c.at' > 0
        · rw [if_pos (decide_eq_true a1)]
          simp only [lt]
          rw [if_neg (by decide)]
          exact fault 2 (by rw [lk, if_pos a1]) hw (by decide)
        · rw [if_neg (dneg a1)]
          simp only [lt]
          rw [if_neg (by decide)]
          exact fault 9 (by rw [lk, if_neg a1]) hw (by decide)
  · rw [if_neg (dneg (by omega))]
    have : j = L.length := by omega
    subst this
    rw [List.drop_length, parseG] at hp
    rw [← hp] at h
    unfold parseE at h
    by_cases a1 : c.at' > 0
    · simp only [if_pos a1] at h
      rw [if_pos (decide_eq_true a1)]
      refine qRightT ⟨c.ls, true, c.til⟩ (by show c.ls.length ≤ 1000000; omega) ?_
      cases hr : rightT ⟨c.ls, true, c.til⟩
      · simp only [hr, Bool.false_eq_true, if_false] at h
        rw [if_pos (by rfl)]
        have := h true true
        simpa [tb0, TLV] using this
      · simp only [hr, if_true] at h
        rw [if_neg (by simp)]
        exact h _ _
    · simp only [if_neg a1] at h
      rw [if_neg (dneg a1)]
      exact h _ _
/- Numbers and days as texts. -/
theorem pack1 (c : UInt8) : Eng.packB [V.c (.int .u8 (c.toNat : Int))] = S [c] := B8_pack [c]
theorem dig8 (n : Nat) : wu8 (w64 (48 + Int.tmod (n : Int) 10)) = ((UInt8.ofNat (48 + n % 10)).toNat : Int) := by
  rw [Int.tmod_eq_emod_of_nonneg (by omega), w64_in (by omega) (by omega), wu8_in (by omega) (by omega)]
  simp; omega
theorem qDecN : ∀ (k n : Nat), n < 10 ^ (k + 1) → n ≤ 9223372036854775807 → ∀ {K : ByteArray → Prop}, K (S (digsN (k + 1) n)) → Xepactref11_decimalsn (k + 1) (n : Int) K
  | k, n, hn, hm, K, h => by
    show Yepactref11_decimals (Xepactref11_decimalsn k) (n : Int) K
    unfold Yepactref11_decimals
    rw [digsN] at h
    simp only [lt, dig8, pack1]
    by_cases e : n < 10
    · rw [if_pos e] at h
      rw [if_pos (decide_eq_true (by omega)), show n % 10 = n by omega]; exact h
    · rw [if_neg e] at h
      rw [if_neg (dneg (by omega))]
      have hd : w64 (Int.tdiv (n : Int) 10) = ((n / 10 : Nat) : Int) := by rw [Int.tdiv_eq_ediv_of_nonneg (by omega), w64_in (by omega) (by omega)]; omega
      rw [hd]
      cases k with
      | zero => omega
      | succ k =>
        refine qDecN k (n / 10) (by rw [Nat.pow_succ] at hn; omega) (by omega) ?_
        have := digsN_len (k + 1) (n / 10)
        have hk : k < 1000 ∨ ¬ k < 1000 := by omega
        rw [S_size, S_size, if_neg (by
          have : (digsN (k + 1) (n / 10)).length ≤ 100 := by
            rw [digsN_eq k _ (by rw [Nat.pow_succ] at hn; omega)]
            have h1 : digsN 20 (n / 10) = Lib.decDigits (n / 10) := digsN_eq 19 (n / 10) (by omega)
            rw [← h1]
            have := digsN_len 20 (n / 10); omega
          simp only [List.length_singleton]; omega), S_append]
        exact h
theorem qDec (n : Int) (h0 : 0 ≤ n) (h1 : n ≤ 9223372036854775807) {K} (h : K (S (itoaK n))) : Xepactref11_decimals n K := by
  refine ⟨20, ?_⟩
  have := qDecN 19 n.toNat (by omega) (by omega) (K := K) (by unfold itoaK at h; rw [if_neg (by omega)] at h; exact h)
  rwa [show ((n.toNat : Nat) : Int) = n by omega] at this
def dateB (n : Int) : List UInt8 := 9 :: itoaK (yearP n) ++ [9] ++ monCap (monP n) ++ [9] ++ itoaK (dayP n) ++ [9]
theorem cap_of {m : Int} (h1 : 1 ≤ m) (h2 : m ≤ 12) : 3 ≤ (monNames.getD (m - 1).toNat []).length ∧ UInt8.ofNat ((Eng.bAt (S (monNames.getD (m - 1).toNat [])) 0).toNat - 32) :: (((monNames.getD (m - 1).toNat []).drop 1).take 2) = monCap m ∧ 32 ≤ Eng.bAt (S (monNames.getD (m - 1).toNat [])) 0 ∧ Eng.bAt (S (monNames.getD (m - 1).toNat [])) 0 ≤ 255 := by
  rcases month_cases h1 h2 with rfl | rfl | rfl | rfl | rfl | rfl | rfl | rfl | rfl | rfl | rfl | rfl <;> exact ⟨by decide, by rfl, by decide, by decide⟩
theorem qDate (n : Int) (hn : -719162 ≤ n ∧ n ≤ 2932896) {K} (h : K (S (dateB n))) : Xepactref11_date n K := by
  rw [Xepactref11_date, Yepactref11_date]
  refine rdate n ?_
  rw [if_pos hn]
  obtain ⟨⟨v1, v2, v3, v4, v5, v6⟩, _⟩ := num_date hn.1 hn.2
  have hd := dim_bd (yearP n) (monP n)
  refine qMonths ?_
  have w1 : w64 (monP n - 1) = monP n - 1 := w64_in (by omega) (by omega)
  rw [w1, WV_len, show monNames.length = 12 from rfl, if_pos (by omega)]
  refine asWd (show (monP n - 1).toNat < monNames.length by rw [show monNames.length = 12 from rfl]; omega) ?_
  obtain ⟨c1, c2, c3, c4⟩ := cap_of v3 v4
  have l1 := itoa_len (yearP n)
  have l2 := itoa_len (dayP n)
  unfold dateB at h
  rw [← c2] at h
  generalize monNames.getD (monP n - 1).toNat [] = N at *
  have e8 : wu8 (Eng.bAt (S N) 0 - 32) = ((UInt8.ofNat ((Eng.bAt (S N) 0).toNat - 32)).toNat : Int) := by
    rw [wu8_in (by omega) (by omega)]; simp; omega
  rw [e8]
  generalize UInt8.ofNat ((Eng.bAt (S N) 0).toNat - 32) = c at *
  simp only [S_size, S_extract, lt, pack1, S_append]
  rw [if_pos (by omega), if_pos (by omega)]
  refine qDec _ (by omega) (by omega) ?_
  simp only [S_size, S_append, List.length_append, List.length_cons, List.length_nil]
  rw [if_neg (by omega), if_neg (by omega), if_neg (by omega), if_neg (by simp; omega), if_neg (by simp; omega)]
  refine qDec _ (by omega) (by omega) ?_
  simp only [S_size, S_append, List.length_append, List.length_cons, List.length_nil]
  rw [if_neg (by simp; omega), if_neg (by simp; omega)]
  simpa using h
/-- So many digits. -/
def padN : Nat → Int → List UInt8
  | 0, _ => []
  | k + 1, n => padN k (n / 10) ++ [UInt8.ofNat (48 + (n % 10).toNat)]
theorem padN_len : ∀ k n, (padN k n).length = k
  | 0, _ => rfl
  | k + 1, n => by rw [padN, List.length_append, padN_len k]; rfl
theorem qDigits (n : Int) (m : Nat) (h0 : 0 ≤ n) (h1 : n ≤ 9223372036854775807) (hm : m ≤ 100) {K} (h : K (S (padN m n))) : Xepactref04_digits n (m : Int) K := by
  unfold Xepactref04_digits Yepactref04_digits
  refine lp_ind (fun x => m - x.1.2.2.2.2.1.toNat) (fun x => ∃ (j : Nat) (c : Int) (s : List UInt8), j ≤ m ∧ 0 ≤ c ∧ c ≤ 9223372036854775807 ∧ s.length = j ∧ padN (m - j) c ++ s = padN m n ∧ x = ((c, (m : Int), ByteArray.mk #[], S s, (j : Int), ()), ())) ?_ ⟨0, n, [], by omega, h0, h1, rfl, by simp, rfl⟩
  rintro x ⟨j, c, s, hj, hc0, hc1, hl, hp, rfl⟩ k hk
  unfold Lepactref04_digits_0
  dsimp only
  by_cases e : j < m
  · rw [if_pos (decide_eq_true (by omega))]
    have e8 : wu8 (w64 (48 + Int.tmod c 10)) = ((UInt8.ofNat (48 + (c % 10).toNat)).toNat : Int) := by
      rw [Int.tmod_eq_emod_of_nonneg hc0, w64_in (by omega) (by omega), wu8_in (by omega) (by omega)]; simp; omega
    have w1 : w64 (Int.tdiv c 10) = c / 10 := by rw [Int.tdiv_eq_ediv_of_nonneg hc0, w64_in (by omega) (by omega)]
    have w2 : w64 ((j : Int) + 1) = ((j + 1 : Nat) : Int) := by rw [w64_in (by omega) (by omega)]; omega
    simp only [lt, e8, pack1, w1, w2, S_size, S_append]
    rw [if_neg (by simp; omega)]
    refine hk _ ⟨j + 1, _, _, e, by omega, by omega, ?_, ?_, rfl⟩ (by show m - Int.toNat ((j + 1 : Nat) : Int) < m - Int.toNat (j : Int); omega)
    · simp; omega
    · rw [← hp, show m - j = (m - (j + 1)) + 1 by omega, padN]; simp
  · have : j = m := by omega
    subst this
    rw [if_neg (dneg (by omega))]
    rw [Nat.sub_self, padN, List.nil_append] at hp
    rw [hp]; exact h
def dayS (n : Int) : List UInt8 := padN 4 (yearP n) ++ [45] ++ padN 2 (monP n) ++ [45] ++ padN 2 (dayP n)
def stampR (n x : Int) : List UInt8 := dayS n ++ [84] ++ padN 2 (x / 3600) ++ [58] ++ padN 2 (x / 60 % 60) ++ [58] ++ padN 2 (x % 60) ++ [90]
theorem stampR_clock (n x : Int) : (stampR n x).length = 20 ∧ ((stampR n x).drop 11).take 8 = hms x := ⟨rfl, rfl⟩
theorem qDay (n : Int) (hn : -719162 ≤ n ∧ n ≤ 2932896) {K} (h : K (S (dayS n)) true) : Xepactref04_Day n K := by
  unfold Xepactref04_Day Yepactref04_Day
  refine rdate n ?_
  rw [if_pos hn]
  obtain ⟨⟨v1, v2, v3, v4, v5, v6⟩, _⟩ := num_date hn.1 hn.2
  have hd := dim_bd (yearP n) (monP n)
  rw [if_neg (by simp)]
  refine qDigits _ 4 (by omega) (by omega) (by omega) ?_
  simp only [S_size, S_append, padN_len, List.length_append, List.length_cons, List.length_nil, lt]
  rw [if_neg (by omega)]
  refine qDigits _ 2 (by omega) (by omega) (by omega) ?_
  simp only [S_size, S_append, padN_len, List.length_append, List.length_cons, List.length_nil]
  rw [if_neg (by omega), if_neg (by omega)]
  refine qDigits _ 2 (by omega) (by omega) (by omega) ?_
  simp only [S_size, S_append, padN_len, List.length_append, List.length_cons, List.length_nil]
  rw [if_neg (by omega)]
  exact h
theorem qClk (x : Int) (h0 : 0 ≤ x) (h1 : x < 86400) {K} (h : K (x / 3600) (x / 60 % 60) (x % 60) true) : Xepactref04_Clock x K := by
  unfold Xepactref04_Clock Yepactref04_Clock
  simp only [decide_eq_true_eq, beq_iff_eq]
  rw [if_neg (by omega), if_neg (by omega), if_neg (by omega), Int.tdiv_eq_ediv_of_nonneg h0, Int.tdiv_eq_ediv_of_nonneg h0, Int.tmod_eq_emod_of_nonneg h0,
    w64_in (by omega) (by omega), w64_in (by omega) (by omega), Int.tmod_eq_emod_of_nonneg (by omega)]
  exact h
theorem dayS_len (n : Int) : (dayS n).length = 10 := rfl
theorem qStText (n x : Int) (hn : -719162 ≤ n ∧ n ≤ 2932896) (h0 : 0 ≤ x) (h1 : x < 86400) {K} (h : K (S (stampR n x)) true) : Xepactref04_Text n x K := by
  unfold Xepactref04_Text Yepactref04_Text
  refine qDay n hn (qClk x h0 h1 ?_)
  have ld := dayS_len n
  unfold stampR at h
  generalize dayS n = D at *
  rw [if_neg (by simp), if_neg (by simp)]
  simp only [S_size, S_append, List.length_append, List.length_cons, List.length_nil, lt, ld]
  rw [if_neg (by omega)]
  refine qDigits _ 2 (by omega) (by omega) (by omega) ?_
  simp only [S_size, S_append, padN_len, List.length_append, List.length_cons, List.length_nil, ld]
  rw [if_neg (by omega), if_neg (by omega)]
  refine qDigits _ 2 (by omega) (by omega) (by omega) ?_
  simp only [S_size, S_append, padN_len, List.length_append, List.length_cons, List.length_nil, ld]
  rw [if_neg (by omega), if_neg (by omega)]
  refine qDigits _ 2 (by omega) (by omega) (by omega) ?_
  simp only [S_size, S_append, padN_len, List.length_append, List.length_cons, List.length_nil, ld]
  rw [if_neg (by omega), if_neg (by omega)]
  exact h
theorem cap_len {m : Int} (h1 : 1 ≤ m) (h2 : m ≤ 12) : (monCap m).length = 3 := (monName_cap h1 h2).2.2
theorem dateB_len {n : Int} (hn : -719162 ≤ n ∧ n ≤ 2932896) : (dateB n).length ≤ 100 := by
  obtain ⟨⟨v1, v2, v3, v4, v5, v6⟩, _⟩ := num_date hn.1 hn.2
  have l1 := itoa_len (yearP n)
  have l2 := itoa_len (dayP n)
  have l3 := cap_len v3 v4
  unfold dateB
  simp; omega
theorem leap_bytes (l : LR) : joinT (leapWords l) ++ [10] = [76, 101, 97, 112] ++ dateB l.1 ++ (if l.2.1 < 0 then [50, 51, 58, 53, 57, 58, 53, 57, 9, 45] else [50, 51, 58, 53, 57, 58, 54, 48, 9, 43]) ++ [9] ++ (if l.2.2 = true then [82] else [83]) ++ [10] := by
  unfold leapWords dateWords dateB
  simp only [List.cons_append, List.nil_append, join_cons, join_one]
  by_cases h1 : l.2.1 < 0
  · simp [if_pos h1]
  · simp [if_neg h1]
theorem exp_bytes (ex : Int) : joinT (expWords ex) ++ [10] = [69, 120, 112, 105, 114, 101, 115] ++ dateB (ex / 86400) ++ hms (ex % 86400) ++ [10] := by
  unfold expWords dateWords dateB
  simp only [List.cons_append, List.nil_append, join_cons, join_one]
  simp
theorem qZText (t : Tb) (hl : t.ls.length ≤ 1000000) (hx : -9223372036854775808 ≤ t.ex ∧ t.ex ≤ 9223372036854775807) {K} (h : K (S (ztextL t).1) (ztextL t).2) : Xepactref11_Text (TLV t.ls, t.has, t.ex, ()) K := by
  rw [Xepactref11_Text, Yepactref11_Text]
  refine qRightT t hl ?_
  unfold ztextL at h
  cases hr : rightT t
  · rw [if_pos (by rfl)]
    rw [hr, if_neg (by simp)] at h; exact h
  rw [hr, if_pos rfl] at h
  rw [if_neg (by simp)]
  obtain ⟨g1, g2⟩ := right_0 hr
  obtain ⟨x1, x2⟩ := right_ex hr
  have hlen := (ztext_len hr).2
  have all := checkG_all _ _ _ g1
  unfold ztextB zlines at h
  have bd : ∀ j, j ≤ t.ls.length → (((t.ls.take j).map leapWords).map fun ws => joinT ws ++ [10]).flatten.length ≤ 200 * j := fun j hj => by
    have := flat_len (((t.ls.take j).map leapWords).map fun ws => joinT ws ++ [10]) 200 fun x hx => by
      obtain ⟨ws, hws, rfl⟩ := List.mem_map.1 hx
      obtain ⟨l, hl, rfl⟩ := List.mem_map.1 hws
      obtain ⟨q1, q2, _⟩ := all l (List.mem_of_mem_take hl)
      exact leap_len (by omega)
    simp at this ⊢; rw [Nat.min_eq_left hj] at this; exact this
  refine lp_at (fun j => (((), ByteArray.mk #[], false, S (((t.ls.take j).map leapWords).map fun ws => joinT ws ++ [10]).flatten, (j : Int), ()), (TLV t.ls, t.has, t.ex, ()), ())) t.ls.length rfl fun j hj k hk => ?_
  rw [Lepactref11_Text_0]
  dsimp only
  have bj := bd j hj
  generalize hT : (((t.ls.take j).map leapWords).map fun ws => joinT ws ++ [10]).flatten = T at *
  rw [TLV_len, Int.toNat_natCast]
  by_cases e : j < t.ls.length
  · rw [if_pos (decide_eq_true (by omega)), if_pos (by omega)]
    refine asL1 e (asL2 e (asL3 e ?_))
    obtain ⟨q1, q2, q3⟩ := all _ (List.getElem_mem e)
    have hn : -719162 ≤ (t.ls[j]).1 ∧ (t.ls[j]).1 ≤ 2932896 := by omega
    have w1 : w64 ((j : Int) + 1) = ((j + 1 : Nat) : Int) := by rw [w64_in (by omega) (by omega)]; omega
    have ld := dateB_len hn
    have := hk e
    rw [List.take_succ_eq_append_getElem e, List.map_append, List.map_append, List.flatten_append, hT, List.map_cons, List.map_nil, List.map_cons, List.map_nil, List.flatten_cons, List.flatten_nil, List.append_nil, leap_bytes] at this
    simp only [S_size, S_append, lt, w1]
    by_cases c1 : (t.ls[j]).2.1 < 0
    · rw [if_pos (decide_eq_true c1)]
      rw [if_pos c1] at this
      cases c2 : (t.ls[j]).2.2
      · rw [if_neg (by simp)]
        rw [c2] at this
        rw [if_neg (by omega)]
        refine qDate _ hn ?_
        simp only [S_size, S_append, List.length_append, List.length_cons, List.length_nil]
        rw [if_neg (by omega), if_neg (by omega), if_neg (by omega), if_neg (by omega), if_neg (by omega)]
        simpa using this
      · rw [if_pos rfl]
        rw [c2] at this
        rw [if_neg (by omega)]
        refine qDate _ hn ?_
        simp only [S_size, S_append, List.length_append, List.length_cons, List.length_nil]
        rw [if_neg (by omega), if_neg (by omega), if_neg (by omega), if_neg (by omega), if_neg (by omega)]
        simpa using this
    · rw [if_neg (dneg c1)]
      rw [if_neg c1] at this
      cases c2 : (t.ls[j]).2.2
      · rw [if_neg (by simp)]
        rw [c2] at this
        rw [if_neg (by omega)]
        refine qDate _ hn ?_
        simp only [S_size, S_append, List.length_append, List.length_cons, List.length_nil]
        rw [if_neg (by omega), if_neg (by omega), if_neg (by omega), if_neg (by omega), if_neg (by omega)]
        simpa using this
      · rw [if_pos rfl]
        rw [c2] at this
        rw [if_neg (by omega)]
        refine qDate _ hn ?_
        simp only [S_size, S_append, List.length_append, List.length_cons, List.length_nil]
        rw [if_neg (by omega), if_neg (by omega), if_neg (by omega), if_neg (by omega), if_neg (by omega)]
        simpa using this
  · have : j = t.ls.length := by omega
    subst this
    rw [List.take_length] at hT
    rw [if_neg (dneg (by omega))]
    cases hh : t.has
    · rw [if_neg (by simp)]
      rw [hh, if_neg (by simp), List.append_nil, hT] at h
      exact h
    · obtain ⟨y1, y2⟩ := x2 hh
      rw [hh, if_pos rfl, List.map_append, List.flatten_append, hT, List.map_cons, List.map_nil, List.flatten_cons, List.flatten_nil, List.append_nil, exp_bytes] at h
      rw [if_pos rfl]
      have hn : -719162 ≤ t.ex / 86400 ∧ t.ex / 86400 ≤ 2932896 := by omega
      refine rdiv _ _ hx.1 hx.2 (by omega) (by omega) (qStText _ _ hn (by omega) (by omega) ?_)
      obtain ⟨z1, z2⟩ := stampR_clock (t.ex / 86400) (t.ex % 86400)
      have ld := dateB_len hn
      rw [S_size, S_size, z1, if_neg (by omega)]
      simp only [S_append, lt, S_extract, z2]
      rw [if_pos (by omega)]
      refine qDate _ hn ?_
      have lh : (hms (t.ex % 86400)).length = 8 := rfl
      simp only [S_size, S_append, List.length_append, List.length_cons, List.length_nil, lh]
      rw [if_neg (by omega), if_neg (by omega), if_neg (by omega)]
      simpa using h
theorem lZicTells (s : List UInt8) (t : Tb) (w : List UInt8) (hx : -9223372036854775808 ≤ t.ex ∧ t.ex ≤ 9223372036854775807) {K : Bool → Prop} (h : K true) : Xepactlaw11_ZicTells (S s) (TLV t.ls, t.has, t.ex, ()) (S w) K := by
  rw [Xepactlaw11_ZicTells, Yepactlaw11_ZicTells]
  refine kSmall ?_
  unfold Xepactlaw09_Few Yepactlaw09_Few
  dsimp only
  rw [TLV_len, S_size, S_size]
  by_cases h1 : ((s.length : Nat) : Int) > 3000
  · rw [if_pos (decide_eq_true h1)]; exact h
  rw [if_neg (dneg h1)]
  by_cases h2 : ((w.length : Nat) : Int) > 100
  · rw [if_pos (decide_eq_true h2)]; exact h
  rw [if_neg (dneg h2)]
  by_cases h3 : ((t.ls.length : Nat) : Int) ≤ 300
  · rw [if_neg (by simp; omega)]
    refine kParse s (by omega) fun o f => qParse s (by omega) fun o' f' => kZText t (by omega) (qZText t (by omega) hx (kMonth w (by omega) (qMonth w (by omega) (kClock w (by omega) (qClock w (by omega) ?_)))))
    rw [if_pos rfl]
    have tls : (zparseL s).1.ls.length ≤ 1000000 := by
      rcases zparse_good s with ⟨g1, g2, g3⟩ | ⟨g1, g2, g3, g4⟩
      · have := (ztext_len g3).2; omega
      · rw [g2]; simp [tb0]
    refine kSameAt (zparseL s).1 (zparseL s).1 true (decide_eq_true rfl) (Nat.ble_eq_true_of_le tls) ?_
    simpa using h
  · rw [if_pos (by simp; omega)]; exact h
end Go.Proofs.YtoiiblhbojhogaaGreatDoor
end
section
set_option linter.unusedVariables false
set_option linter.unusedSimpArgs false
namespace Go.Proofs.YtoiiblhbojhogaaGreatDoor
open Go Go.Proofs.YtoiiblhbojhogaaGreatDoor.Eng Go.Proofs.YtoiiblhbojhogaaGreatDoor.Pl
theorem pureZicTells : PureZicTells := by
  intro a0 h0 a1 h1 a2 h2
  obtain ⟨t, e, hx, _⟩ := table_in a1 h1
  rw [show (akZicTells1.DV a1 : List V × Bool × Int × Unit) = (TLV t.ls, t.has, t.ex, ()) from e]
  show Xepactlaw11_ZicTells (a0 : ByteArray) (TLV t.ls, t.has, t.ex, ()) (a2 : ByteArray) (fun b => b = true)
  rw [of_S a0, of_S a2]
  exact lZicTells _ t _ hx rfl
end Go.Proofs.YtoiiblhbojhogaaGreatDoor
end
