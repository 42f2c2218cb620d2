/- What the functions come to in plain data, with proofs, and what that answers. -/
import Derived.Test.YtenaflbcnkalbaaGreatDoorJRightPlain1
section
set_option linter.unusedVariables false
set_option linter.unusedSimpArgs false
namespace Go.Proofs.YtenaflbcnkalbaaGreatDoor
open Go Go.Proofs.YtenaflbcnkalbaaGreatDoor.Eng Go.Proofs.YtenaflbcnkalbaaGreatDoor.Pl
set_option linter.unusedVariables false
set_option linter.unusedSimpArgs false
set_option maxRecDepth 100000
set_option maxHeartbeats 2000000
theorem RV_cut (l : List Rec) (a n : Nat) : cutL (RV l) a n = RV ((l.drop a).take n) := by simp [cutL, RV]
theorem getD_at {α : Type} (l : List α) (i : Nat) (d : α) (h : i < l.length) : l.getD i d = l[i] := by
  rw [List.getD_eq_getElem?_getD, List.getElem?_eq_getElem h]; rfl
theorem sLeaps (l : List Rec) (hl : l.length ≤ 100000) {K} (h : K (RV (leapsR l)) false true) : Xrecord_leaps (RV l) K := by
  unfold Xrecord_leaps Yrecord_leaps
  simp only [RV_len, beq_iff_eq, decide_eq_true_eq]
  have e1 : w64 ((l.length : Int) - 1) = (l.length : Int) - 1 := w64_in (by omega) (by omega)
  have e2 : w64 ((l.length : Int) - 1 - 1) = (l.length : Int) - 1 - 1 := w64_in (by omega) (by omega)
  rw [e1, e2]
  simp only [lt]
  have cut : ∀ n : Nat, n = l.length - 1 → cutL (RV l) 0 (Int.toNat ((l.length : Int) - 1) - 0) = RV (l.take n) := fun n hn => by
    rw [RV_cut, List.drop_zero]; congr 2; omega
  unfold leapsR at h
  by_cases h1 : l.length = 1
  · have g := getD_at l 0 (0, 0) (by omega)
    have le : lastExp l = ((l[0]'(by omega)).2 == 0) := by
      unfold lastExp
      rw [g]; simp [h1]
    rw [if_pos (by omega), if_pos (by omega)]
    refine asR2 (by omega) ?_
    by_cases h2 : (l[0]'(by omega)).2 = 0
    · rw [if_pos h2, if_pos h2, if_pos (by omega), if_pos (by omega), cut _ rfl]
      rw [le, h2, if_pos (beq_self_eq_true _)] at h
      exact h
    · rw [if_neg h2, if_neg (by omega)]
      rw [le, if_neg (by simpa using h2)] at h
      exact h
  · rw [if_neg (by omega)]
    by_cases h2 : 1 < l.length
    · have g1 := getD_at l (l.length - 1) (0, 0) (by omega)
      have g2 := getD_at l (l.length - 2) (0, 0) (by omega)
      have le : lastExp l = ((l[l.length - 1]'(by omega)).2 == (l[l.length - 2]'(by omega)).2) := by
        unfold lastExp
        rw [g1, g2]; simp [h1, h2]
      rw [if_pos (by omega), if_pos (by omega)]
      have t1 : Int.toNat ((l.length : Int) - 1) = l.length - 1 := by omega
      have t2 : Int.toNat ((l.length : Int) - 1 - 1) = l.length - 2 := by omega
      rw [t1, t2] at *
      refine asR2 (by omega) ?_
      rw [if_pos (by omega)]
      refine asR2 (by omega) ?_
      by_cases h3 : (l[l.length - 1]'(by omega)).2 = (l[l.length - 2]'(by omega)).2
      · have cut2 : cutL (RV l) 0 (l.length - 1 - 0) = RV (l.take (l.length - 1)) := by rw [RV_cut]; simp
        rw [if_pos h3, if_pos (by omega), if_pos (by omega), cut2]
        rw [le, h3, if_pos (beq_self_eq_true _)] at h
        exact h
      · rw [if_neg h3]
        rw [le, if_neg (by simpa using h3)] at h
        exact h
    · have le : lastExp l = false := by
        unfold lastExp
        simp [h1, h2]
      rw [if_neg (by omega)]
      rw [le, if_neg (by simp)] at h
      exact h
theorem lastExp_pos {l : List Rec} (h : lastExp l = true) : 1 ≤ l.length := by
  unfold lastExp at h
  simp only [Bool.or_eq_true, Bool.and_eq_true, decide_eq_true_eq] at h
  omega
theorem leapsR_len (l : List Rec) : (leapsR l).length = if lastExp l = true then l.length - 1 else l.length := by
  unfold leapsR
  split
  · rw [List.length_take]; omega
  · rfl
theorem sExpiry (l : List Rec) (hl : l.length ≤ 100000) {K : Int → Bool → Prop} (h : ∀ n, K n (lastExp l)) : Xrecord_Expiry (RV l) K := by
  unfold Xrecord_Expiry Yrecord_Expiry
  refine sLeaps l hl ?_
  simp only [RV_len, decide_eq_true_eq, leapsR_len]
  cases e : lastExp l
  · rw [if_neg (by simp)]
    have := h 0
    rw [e] at this; exact this
  · have := lastExp_pos e
    rw [if_pos (by simp; omega), if_pos (by simp; omega)]
    simp only [if_true, Int.toNat_natCast]
    refine asR1 (by omega) ?_
    have := h (l[l.length - 1]'(by omega)).1
    rw [e] at this; exact this
/-- Names that were laid, and where. -/
def hadM (hs : List (List UInt8 × Int)) : List (Value × V) := hs.map fun x => (.string (S x.1), .c (.int .i64 x.2))
theorem bs_beq (a b : List UInt8) : (S a == S b) = (a == b) := by
  rw [Bool.eq_iff_iff, MapKept.bytes_beq, beq_iff_eq]
  constructor
  · intro h
    rw [← S_toList a, ← S_toList b, h]
  · intro h; rw [h]
theorem get_had (s : List UInt8) : ∀ hs : List (List UInt8 × Int), mpGet (S s) (hadM hs) = some ((hs.find? fun x => x.1 == s).map fun x => V.c (.int .i64 x.2))
  | [] => rfl
  | x :: hs => by
    show (bif S s == S x.1 then _ else _) = _
    rw [bs_beq, List.find?_cons]
    by_cases e : s = x.1
    · rw [e]; simp
    · have e1 : (s == x.1) = false := by simpa using e
      have e2 : (x.1 == s) = false := by simpa using Ne.symm e
      rw [e1, e2]
      exact get_had s hs
theorem put_had (s : List UInt8) (p : Int) : ∀ hs : List (List UInt8 × Int), hs.find? (fun x => x.1 == s) = none → mpPut (S s) (.c (.int .i64 p)) (hadM hs) = hadM (hs ++ [(s, p)])
  | [], _ => rfl
  | x :: hs, h => by
    rw [List.find?_cons] at h
    cases e : (x.1 == s)
    · rw [e] at h
      have e1 : (s == x.1) = false := by
        rw [beq_eq_false_iff_ne] at e ⊢; exact Ne.symm e
      show (bif S s == S x.1 then _ else _) = _
      rw [bs_beq, e1]
      show _ :: mpPut (S s) _ (hadM hs) = _
      rw [put_had s p hs h]; rfl
    · rw [e] at h; cases h
theorem poolN_congr : ∀ (l a b : List (List UInt8)), (∀ s, a.contains s = b.contains s) → poolN a l = poolN b l
  | [], a, b, h => rfl
  | s :: r, a, b, h => by
    rw [poolN, poolN, h s]
    split
    · exact poolN_congr r a b h
    · rw [poolN_congr r (s :: a) (s :: b) fun t => by simp only [List.contains_cons, h t]]
theorem poolN_le : ∀ (l a : List (List UInt8)), (∀ s ∈ l, s.length ≤ 10000) → poolN a l ≤ 10001 * l.length
  | [], a, h => by simp [poolN]
  | s :: r, a, h => by
    rw [poolN, List.length_cons]
    have h1 := h s (.head _)
    split
    · have := poolN_le r a fun t ht => h t (.tail _ ht); omega
    · have := poolN_le r (s :: a) fun t ht => h t (.tail _ ht); omega
def NV (l : List (List UInt8)) : List V := l.map fun s => .c (.string (S s))
theorem NV_len (l : List (List UInt8)) : (NV l).length = l.length := by simp [NV]
theorem asN {l : List (List UInt8)} {i : Nat} (h : i < l.length) {F : Prop} {K : ByteArray → Prop} (hk : K (S l[i])) : Eng.asStr (getC (NV l) i 0) F K := by
  have : getC (NV l) i 0 = some (.c (.string (S l[i]))) := by simp [getC, NV, V.cells, h]
  rw [this]; simpa [Eng.asStr] using hk
theorem room8 (n : Nat) (h : n ≤ 100000000) : roomOk n 8 = true := by
  unfold roomOk; simp only [decide_eq_true_eq]; omega
theorem room16 (n : Nat) (h : n ≤ 100000000) : roomOk n 16 = true := by
  unfold roomOk; simp only [decide_eq_true_eq]; omega
theorem room32 (n : Nat) (h : n ≤ 100000000) : roomOk n 32 = true := by
  unfold roomOk; simp only [decide_eq_true_eq]; omega
theorem sPool (l : List (List UInt8)) (hl : l.length ≤ 1000) (hs : ∀ s ∈ l, s.length ≤ 10000) {K : ByteArray → Bool → List V → Bool → Bool → Prop}
    (h : ∀ p at' o z, p.size ≤ 100000000 → (l.all abbrL && decide (poolN [] l ≤ 256)) = true → p.size = poolN [] l → K p true at' o z)
    (h' : (l.all abbrL && decide (poolN [] l ≤ 256)) = false → ∀ p at' o z, K p false at' o z) : Xabbr_Pool (NV l) K := by
  unfold Xabbr_Pool Yabbr_Pool
  rw [NV_len]
  refine lp_ind (fun x => l.length - x.1.2.2.2.2.2.2.1.toNat) (fun x => ∃ (j : Nat) (p : List UInt8) (hd : List (List UInt8 × Int)) (at' : List V), j ≤ l.length ∧ x = ((S p, (), false, (), NV l, (l.length : Int), (j : Int), ()), hadM hd, at', ()) ∧
    (l.take j).all abbrL = true ∧ p.length + poolN (hd.map (·.1)) (l.drop j) = poolN [] l ∧ at'.length = j) ?_ ⟨0, [], [], [], by omega, rfl, rfl, by simp, rfl⟩
  rintro x ⟨j, p, hd, at', hj, rfl, hall, hp, hat⟩ k hk
  have hle := poolN_le l [] hs
  unfold Labbr_Pool_0
  simp only [decide_eq_true_eq, NV_len]
  by_cases e : j = l.length
  · rw [if_neg (by omega)]
    rw [e, List.take_length] at hall
    rw [e, List.drop_length] at hp
    have hp' : p.length = poolN [] l := by simpa [poolN] using hp
    by_cases h2 : ((S p).size : Int) > 256
    · rw [if_pos h2]
      rw [S_size] at h2
      exact h' (by rw [hall]; simp; omega) _ _ _ _
    · rw [if_neg h2]
      rw [S_size] at h2
      exact h _ _ _ _ (by rw [S_size]; omega) (by rw [hall]; simp; omega) (by rw [S_size]; exact hp')
  · have hj' : j < l.length := by omega
    rw [Int.toNat_natCast, if_pos (by omega), if_pos (by omega)]
    refine asN hj' ?_
    refine sabbr _ ?_
    have hd' : l.drop j = l[j] :: l.drop (j + 1) := List.drop_eq_getElem_cons hj'
    have ht : l.take (j + 1) = l.take j ++ [l[j]] := List.take_succ_eq_append_getElem hj'
    have hsl := hs l[j] (List.getElem_mem hj')
    have hmem := List.getElem_mem hj'
    rw [hd'] at hp
    generalize l[j] = s at *
    cases ha : abbrL s
    · simp only [Bool.not_false, if_true]
      refine h' ?_ _ _ _ _
      have : l.all abbrL = false := by
        rw [Bool.eq_false_iff]; intro h; rw [List.all_eq_true.1 h s hmem] at ha; cases ha
      rw [this]; rfl
    · simp only [Bool.not_true, Bool.false_eq_true, if_false]
      rw [get_had]
      have hall' : (l.take (j + 1)).all abbrL = true := by rw [ht, List.all_append, hall]; simp [ha]
      have e1 : w64 ((j : Int) + 1) = ((j + 1 : Nat) : Int) := by rw [w64_in (by omega) (by omega)]; omega
      have step : ∀ (p' : List UInt8) (hd2 : List (List UInt8 × Int)) (v : V), p'.length + poolN (hd2.map (·.1)) (l.drop (j + 1)) = poolN [] l → k ((S p', (), false, (), NV l, (l.length : Int), ((j + 1 : Nat) : Int), ()), hadM hd2, at' ++ [v], ()) := fun p' hd2 v hq => by
        refine hk _ ⟨j + 1, p', hd2, at' ++ [v], by omega, rfl, hall', hq, by simp [hat]⟩ ?_
        show l.length - ((j + 1 : Nat) : Int).toNat < l.length - ((j : Nat) : Int).toNat
        omega
      rw [poolN] at hp
      cases hf : hd.find? (fun x => x.1 == s) with
      | none =>
        have hc : (hd.map (·.1)).contains s = false := by
          rw [Bool.eq_false_iff]
          intro hc
          rw [List.contains_iff_mem, List.mem_map] at hc
          obtain ⟨y, hy, hys⟩ := hc
          have := List.find?_eq_none.1 hf y hy
          simp [hys] at this
        rw [hc, if_neg (by simp)] at hp
        simp only [Option.map_none, Eng.asMpI, Bool.not_false, if_true, Option.isSome_some]
        have hps : p.length ≤ 100000000 := by omega
        rw [if_neg (by rw [S_size]; omega)]
        have es : S s ++ ByteArray.mk #[(0 : UInt8)] = S (s ++ [0]) := S_append s [0]
        rw [es, S_append, S_size, S_size, if_neg (by simp; omega)]
        simp only [lt]
        rw [if_pos (room8 _ (by simp; omega)), put_had s _ hd hf, e1]
        refine step (p ++ (s ++ [0])) (hd ++ [(s, (p.length : Int))]) _ ?_
        rw [← hp, poolN_congr (l.drop (j + 1)) _ (s :: hd.map (·.1)) fun t => by
          rw [Bool.eq_iff_iff, List.contains_iff_mem, List.contains_iff_mem, List.map_append, List.mem_append, List.mem_cons]
          simp only [List.map_cons, List.map_nil, List.mem_singleton]
          exact ⟨fun h => h.symm, fun h => h.symm⟩]
        simp only [List.length_append, List.length_singleton]
        omega
      | some y =>
        have hy := List.find?_some hf
        have hc : (hd.map (·.1)).contains s = true := by
          rw [List.contains_iff_mem, List.mem_map]
          exact ⟨y, List.mem_of_find?_eq_some hf, by simpa using hy⟩
        rw [hc, if_pos rfl] at hp
        simp only [Option.map_some, Eng.asMpI, if_true, Bool.not_true, Bool.false_eq_true, if_false]
        rw [if_pos (room8 _ (by simp; omega)), e1]
        exact step p hd _ hp
end Go.Proofs.YtenaflbcnkalbaaGreatDoor
end
section
set_option linter.unusedVariables false
set_option linter.unusedSimpArgs false
namespace Go.Proofs.YtenaflbcnkalbaaGreatDoor
open Go Go.Proofs.YtenaflbcnkalbaaGreatDoor.Eng Go.Proofs.YtenaflbcnkalbaaGreatDoor.Pl
set_option linter.unusedVariables false
set_option linter.unusedSimpArgs false
set_option maxRecDepth 100000
set_option maxHeartbeats 2000000
/-- A zone as it comes in: whole numbers that go, rows that are not too long. -/
structure ZI (z : Zn) : Prop where
  ty : z.ty.length ≤ 100
  tr : z.tr.length ≤ 300
  lp : z.lp.length ≤ 300
  ft : z.ft.length ≤ 200
  nm : ∀ t ∈ z.ty, t.2.2.length ≤ 100
  ri : recI z.lp
  ti : recI z.tr
  v : i64r z.v
theorem tupZ_eq (z : Zn) : tupZ z = (TV z.ty, RV z.tr, RV z.lp, S z.ft, z.v, ()) := rfl
theorem spool (z : Zn) (h : ZI z) {K : ByteArray → Bool → List V → Bool → Bool → Prop}
    (hk : ∀ p at' o y, p.size ≤ 100000000 → ((z.ty.map (·.2.2)).all abbrL && decide (poolN [] (z.ty.map (·.2.2)) ≤ 256)) = true → p.size = poolN [] (z.ty.map (·.2.2)) → K p true at' o y)
    (hk' : ((z.ty.map (·.2.2)).all abbrL && decide (poolN [] (z.ty.map (·.2.2)) ≤ 256)) = false → ∀ p at' o y, K p false at' o y) : Xblock_pool (tupZ z) K := by
  unfold Xblock_pool Yblock_pool
  simp only [tupZ_eq, TV_len]
  refine lp_at (fun j => ((ByteArray.mk #[], (), false, (), TV z.ty, (z.ty.length : Int), (j : Int), ()), NV ((z.ty.map (·.2.2)).take j), ())) z.ty.length rfl fun n hn k hkk => ?_
  unfold Lblock_pool_0
  simp only [decide_eq_true_eq, TV_len]
  by_cases e : n = z.ty.length
  · rw [if_neg (by omega), List.take_of_length_le (by simp; omega)]
    refine sPool _ (by have := h.ty; simp; omega) (fun s hs => ?_) hk hk'
    obtain ⟨t, ht, rfl⟩ := List.mem_map.1 hs
    have := h.nm t ht; omega
  · have hn' : n < z.ty.length := by omega
    have hk' := hkk hn'
    have e1 : w64 ((n : Int) + 1) = ((n + 1 : Nat) : Int) := by have := h.ty; rw [w64_in (by omega) (by omega)]; omega
    rw [Int.toNat_natCast, if_pos (by omega), if_pos (by omega)]
    refine asT1 hn' (asT2 hn' (asT3 hn' ?_))
    rw [if_pos (room16 _ (by rw [NV_len]; have := h.ty; simp; omega)), e1]
    refine (congrArg k ?_).mp hk'
    have : NV ((z.ty.map (·.2.2)).take (n + 1)) = NV ((z.ty.map (·.2.2)).take n) ++ [.c (.string (S (z.ty[n]).2.2))] := by
      rw [List.take_succ_eq_append_getElem (by simpa using hn')]
      simp [NV]
    rw [this]
theorem hwithin (n a b : Int) {K : Bool → Prop} (h : K (nin n a b)) : Xhead_within n a b K := by
  unfold Xhead_within Yhead_within
  unfold nin at h
  simp only [decide_eq_true_eq]
  by_cases h1 : n ≥ a
  · rw [if_pos h1]
    have : decide (a ≤ n ∧ n ≤ b) = decide (n ≤ b) := by simp; intro _; omega
    rw [this] at h; exact h
  · rw [if_neg h1]
    have : decide (a ≤ n ∧ n ≤ b) = false := by simp; omega
    rw [this] at h; exact h
theorem shead (v lp tr ty ch : Int) {K : Bool → Prop} (h : K (nin lp 0 201 && nin tr 0 2000 && nin ty 1 64 && nin ch 1 256 && nin v 1 4)) : Xhead_Right (v, 0, 0, lp, tr, ty, ch, ()) K := by
  unfold Xhead_Right Yhead_Right
  refine hwithin _ _ _ ?_
  cases h1 : nin lp 0 201
  · rw [h1] at h
    simp only [Bool.false_and] at h
    simp only [Bool.false_eq_true, if_false, beq_self_eq_true, if_true]
    exact h
  rw [h1] at h
  rw [if_pos rfl]
  refine hwithin _ _ _ ?_
  cases h2 : nin tr 0 2000
  · rw [h2] at h
    simp only [Bool.false_and, Bool.and_false] at h
    simp only [Bool.false_eq_true, if_false, beq_self_eq_true, if_true]
    exact h
  rw [h2] at h
  rw [if_pos rfl]
  refine hwithin _ _ _ ?_
  cases h3 : nin ty 1 64
  · rw [h3] at h
    simp only [Bool.false_and, Bool.and_false] at h
    simp only [Bool.false_eq_true, if_false, beq_self_eq_true, if_true]
    exact h
  rw [h3] at h
  rw [if_pos rfl]
  refine hwithin _ _ _ ?_
  simp only [beq_self_eq_true, if_true]
  cases h4 : nin ch 1 256
  · rw [h4] at h
    simp only [Bool.false_and, Bool.and_false] at h
    simp only [Bool.false_eq_true, if_false]
    exact h
  rw [h4] at h
  rw [if_pos rfl]
  refine hwithin _ _ _ ?_
  simpa using h
theorem scount (z : Zn) (h : ZI z) {K : Int × Int × Int × Int × Int × Int × Int × Unit → Bool → Prop} (hk : ∀ r, K r (countOk z)) : Xblock_Count (tupZ z) K := by
  unfold Xblock_Count Yblock_Count
  have hk1 : ∀ r b, b = countOk z → K r b := fun r b e => e ▸ hk r
  refine spool z h (fun p at' o y hp hok hsz => ?_) fun hbad p at' o y => ?_
  · rw [if_neg (by simp)]
    simp only [tupZ_eq, TV_len, RV_len, hsz]
    refine shead _ _ _ _ _ ?_
    have e : countOk z = (nin z.lp.length 0 201 && nin z.tr.length 0 2000 && nin z.ty.length 1 64 && nin (poolN [] (z.ty.map (·.2.2)) : Nat) 1 256 && nin z.v 1 4) := by
      unfold countOk
      rw [hok, Bool.true_and]
    cases hb : (nin z.lp.length 0 201 && nin z.tr.length 0 2000 && nin z.ty.length 1 64 && nin (poolN [] (z.ty.map (·.2.2)) : Nat) 1 256 && nin z.v 1 4)
    · rw [if_pos (show (!false) = true from rfl)]; exact hk1 _ _ (by rw [e, hb])
    · rw [if_neg (by simp)]; exact hk1 _ _ (by rw [e, hb])
  · rw [if_pos (show (!false) = true from rfl)]
    refine hk1 _ _ ?_
    unfold countOk
    rw [hbad]; simp
theorem sallT (l : List Ty) (hl : l.length ≤ 100000) {K : Bool → Prop} (h : K (l.all (fun t => decide (-89999 ≤ t.1 ∧ t.1 ≤ 93599)))) : Xzone_all_api_Type_ (TV l) K := by
  unfold Xzone_all_api_Type_ Yzone_all_api_Type_
  rw [TV_len]
  refine lp_ind (fun x => l.length - x.1.2.2.2.2.1.toNat) (fun x => ∃ j : Nat, j ≤ l.length ∧ x = ((((), ()), false, TV l, (l.length : Int), (j : Int), ()), ()) ∧ (l.take j).all (fun t => decide (-89999 ≤ t.1 ∧ t.1 ≤ 93599)) = true) ?_ ⟨0, by omega, rfl, rfl⟩
  rintro x ⟨j, hj, rfl, hall⟩ k hk
  unfold Lzone_all_api_Type__0
  simp only [decide_eq_true_eq, TV_len]
  by_cases e : j = l.length
  · rw [if_neg (by omega)]
    rw [e, List.take_length] at hall
    rw [hall] at h; exact h
  · have hj' : j < l.length := by omega
    rw [Int.toNat_natCast, if_pos (by omega), if_pos (by omega)]
    refine asT1 hj' (asT2 hj' (asT3 hj' ?_))
    have ht : l.take (j + 1) = l.take j ++ [l[j]] := List.take_succ_eq_append_getElem hj'
    have hmem := List.getElem_mem hj'
    generalize l[j] = t at *
    have e1 : w64 ((j : Int) + 1) = ((j + 1 : Nat) : Int) := by rw [w64_in (by omega) (by omega)]; omega
    unfold Xzone_Right_1 Yzone_Right_1
    simp only [decide_eq_true_eq, e1]
    have bad : ¬ (-89999 ≤ t.1 ∧ t.1 ≤ 93599) → K false := fun hn => by
      have : l.all (fun t => decide (-89999 ≤ t.1 ∧ t.1 ≤ 93599)) = false := by
        rw [Bool.eq_false_iff]; intro hh; exact hn (by simpa using List.all_eq_true.1 hh t hmem)
      rw [this] at h; exact h
    by_cases h1 : t.1 ≥ -89999
    · rw [if_pos h1]
      by_cases h2 : t.1 ≤ 93599
      · rw [if_neg (by simpa using h2)]
        refine hk _ ⟨j + 1, by omega, rfl, ?_⟩ ?_
        · rw [ht, List.all_append, hall]; simp; exact ⟨h1, h2⟩
        · show l.length - ((j + 1 : Nat) : Int).toNat < l.length - ((j : Nat) : Int).toNat
          omega
      · rw [if_pos (by simpa using h2)]; exact bad (by omega)
    · rw [if_neg h1, if_pos (by simp)]; exact bad (by omega)
end Go.Proofs.YtenaflbcnkalbaaGreatDoor
end
section
set_option linter.unusedVariables false
set_option linter.unusedSimpArgs false
namespace Go.Proofs.YtenaflbcnkalbaaGreatDoor
open Go Go.Proofs.YtenaflbcnkalbaaGreatDoor.Eng Go.Proofs.YtenaflbcnkalbaaGreatDoor.Pl
set_option linter.unusedVariables false
set_option linter.unusedSimpArgs false
theorem kind_iff {o : Int} {d : Bool} {l : List UInt8} {w : Bool} : kindR o d l w = true ↔ abbrL l = true ∧ d = w ∧ -89999 ≤ o ∧ o ≤ 89999 := by
  unfold kindR; simp [and_assoc]
theorem sruleAtR (r : Ru) (y : Int) {K} (h : if (1 ≤ y ∧ y ≤ 9999) ∧ r.ok = true then K (r.at y) true else K 0 false) : Xrule_At (tupRu r) y K := by
  refine sruleAt _ _ _ _ _ _ ?_
  by_cases e : (1 ≤ y ∧ y ≤ 9999) ∧ rightR r.k r.a r.b r.c r.x = true
  · have e' : (1 ≤ y ∧ y ≤ 9999) ∧ r.ok = true := e
    rw [if_pos e'] at h
    rw [if_pos e, decide_eq_true e]; exact h
  · have e' : ¬ ((1 ≤ y ∧ y ≤ 9999) ∧ r.ok = true) := e
    rw [if_neg e'] at h
    rw [if_neg e, decide_eq_false e]; exact h
theorem sfootSpan (f : Ft) (y : Int) {K} (h : if f.spans y then K (f.from' y) (f.to' y) true else K 0 0 false) : Xfoot_Span (tupFt f) y K := by
  unfold Xfoot_Span Yfoot_Span
  by_cases eh : f.has = true
  · refine ifF (by simp [eh]) (sfootRight f ?_)
    by_cases e : f.ok = true
    · refine ifF (by simp [e]) (sruleAtR f.fr y ?_)
      have e' := e
      unfold Ft.ok at e'
      rw [if_pos eh, Bool.and_eq_true, Bool.and_eq_true, Bool.and_eq_true] at e'
      obtain ⟨e0, ⟨e1, e2⟩, e3⟩ := e'
      obtain ⟨k1, k2, k3, k4⟩ := kind_iff.1 e0
      obtain ⟨j1, j2, j3, j4⟩ := kind_iff.1 e1
      have r1 := (right_iff _ _ _ _ _).1 e2
      have r2 := (right_iff _ _ _ _ _).1 e3
      by_cases ey : 1 ≤ y ∧ y ≤ 9999
      · have hsp : f.spans y := ⟨eh, e, ey.1, ey.2⟩
        rw [if_pos hsp] at h
        have d1 := ruleDay_bd ey e2
        have d2 := ruleDay_bd ey e3
        have hf := fst_bd ey.1 ey.2
        have hf2 := fst_succ y
        refine ifT ⟨ey, e2⟩ (ifF (by simp) (sruleAtR f.to y (ifT ⟨ey, e3⟩ ?_)))
        unfold Ft.from' Ft.to' at h
        show K (w64 (f.fr.at y - f.so)) (w64 (f.to.at y - f.wo)) true
        unfold Ru.at at h ⊢
        rw [w64_in (by omega) (by omega), w64_in (by omega) (by omega)]
        exact h
      · rw [if_neg (fun h => ey ⟨h.2.2.1, h.2.2.2⟩)] at h
        exact ifF (fun h => ey h.1) (ifT rfl h)
    · rw [if_neg (fun h => e h.2.1)] at h
      exact ifT (by simpa using e) h
  · rw [if_neg (fun h => eh h.1)] at h
    exact ifT (by simpa using eh) h
theorem syear (n : Int) (h0 : -9223372036854775808 ≤ n) (h1 : n ≤ 9223372036854775807) {K} (h : if inDays n then K (yearP (n / 86400)) true else K 0 false) : Xfoot_year n K := by
  rw [Xfoot_year, Yfoot_year]
  refine sdiv _ _ h0 h1 (by omega) (by omega) (sday _ ?_)
  by_cases e : inDays n
  · rw [if_pos e] at h
    exact ifT e h
  · rw [if_neg e] at h
    exact ifF e h
theorem sfootLookup (f : Ft) (p : Int) (hp : -9223372036854775808 ≤ p ∧ p ≤ 9223372036854775807) (ho : -9223372036854775808 ≤ f.so ∧ f.so ≤ 9223372036854775807) {K} (h : if f.sum p then K (f.wo, f.wd, S f.wa, ()) else K (f.so, f.sd, S f.sa, ())) : Xfoot_Lookup (tupFt f) p K := by
  unfold Xfoot_Lookup Yfoot_Lookup
  refine sadd _ _ hp ho ?_
  have std : ¬ f.sum p → K (f.so, f.sd, S f.sa, ()) := fun hn => by rw [if_neg hn] at h; exact h
  have dst : f.sum p → K (f.wo, f.wd, S f.wa, ()) := fun hn => by rw [if_pos hn] at h; exact h
  by_cases e : -9223372036854775808 ≤ p + f.so ∧ p + f.so ≤ 9223372036854775807
  · refine ifT e (syear _ e.1 e.2 ?_)
    by_cases ed : inDays (p + f.so)
    · refine ifT ed (sfootSpan f _ ?_)
      by_cases es : f.spans (yearP ((p + f.so) / 86400))
      · refine ifT es (ifF (by simp) (ifF (by simp) (ifF (by simp) ?_)))
        have hs : f.sum p ↔ ((f.from' (yearP ((p + f.so) / 86400)) ≤ p ∧ p < f.to' (yearP ((p + f.so) / 86400))) ∨ (f.to' (yearP ((p + f.so) / 86400)) ≤ f.from' (yearP ((p + f.so) / 86400)) ∧ (f.from' (yearP ((p + f.so) / 86400)) ≤ p ∨ p < f.to' (yearP ((p + f.so) / 86400))))) :=
          ⟨fun h => h.2.2, fun h => ⟨ed, es, h⟩⟩
        simp only [decide_eq_true_eq, ge_iff_le]
        generalize f.from' (yearP ((p + f.so) / 86400)) = a at *
        generalize f.to' (yearP ((p + f.so) / 86400)) = b at *
        refine ifC (fun h1 => ifC (fun h2 => dst (hs.2 (by omega))) fun h2 => ifC (fun h3 => ifC (fun h4 => dst (hs.2 (by omega))) fun h4 => absurd h1 h4) fun h3 => std (fun h => by have := hs.1 h; omega))
          fun h1 => ifC (fun h3 => ifC (fun h4 => absurd h4 h1) fun h4 => ifC (fun h5 => dst (hs.2 (by omega))) fun h5 => std (fun h => by have := hs.1 h; omega)) fun h3 => std (fun h => by have := hs.1 h; omega)
      · exact ifF es (ifF (by simp) (ifF (by simp) (ifT (by simp) (std fun h => es h.2.1))))
    · refine ifF ed (sfootSpan f _ ?_)
      have : ¬ f.spans 0 := fun h => by have := h.2.2.1; omega
      exact ifF this (ifF (by simp) (ifT (by simp) (std fun h => ed h.1)))
  · refine ifF e (syear 0 (by omega) (by omega) ?_)
    have h0 : inDays 0 := by unfold inDays; omega
    refine ifT h0 (sfootSpan f _ ?_)
    have out : ¬ f.sum p := fun h => e (by have := h.1; unfold inDays at this; omega)
    refine ifC (fun _ => ifT (by simp) (std out)) fun _ => ifT (by simp) (std out)
end Go.Proofs.YtenaflbcnkalbaaGreatDoor
end
section
set_option linter.unusedVariables false
set_option linter.unusedSimpArgs false
namespace Go.Proofs.YtenaflbcnkalbaaGreatDoor
open Go Go.Proofs.YtenaflbcnkalbaaGreatDoor.Eng Go.Proofs.YtenaflbcnkalbaaGreatDoor.Pl
set_option linter.unusedVariables false
set_option linter.unusedSimpArgs false
def i64 (n : Int) : Prop := -9223372036854775808 ≤ n ∧ n ≤ 9223372036854775807
theorem ok_so {f : Ft} (h : f.ok = true) : -89999 ≤ f.so ∧ f.so ≤ 89999 ∧ f.sd = false ∧ abbrL f.sa = true := by
  unfold Ft.ok at h
  rw [Bool.and_eq_true] at h
  obtain ⟨k1, k2, k3, k4⟩ := kind_all.1 h.1
  exact ⟨k3, k4, k2, k1⟩
theorem not_true (b : Bool) : ((!b) = true) = ¬ (b = true) := by cases b <;> simp
end Go.Proofs.YtenaflbcnkalbaaGreatDoor
end
section
set_option linter.unusedVariables false
set_option linter.unusedSimpArgs false
namespace Go.Proofs.YtenaflbcnkalbaaGreatDoor
open Go Go.Proofs.YtenaflbcnkalbaaGreatDoor.Eng Go.Proofs.YtenaflbcnkalbaaGreatDoor.Pl
set_option linter.unusedVariables false
set_option linter.unusedSimpArgs false
set_option maxRecDepth 100000
set_option maxHeartbeats 2000000
/-- Sorted by when. -/
def Srt (l : List Rec) : Prop := ∀ (s t : Nat) (hs : s < l.length) (ht : t < l.length), s ≤ t → (l[s]).1 ≤ (l[t]).1
theorem half {i j : Nat} (h : i + j ≤ 1000000) : w64 (Int.fdiv (wu64 (w64 ((i : Int) + (j : Int)))) 2) = (((i + j) / 2 : Nat) : Int) := by
  have e1 : w64 ((i : Int) + (j : Int)) = (i : Int) + (j : Int) := w64_in (by omega) (by omega)
  have e2 : wu64 ((i : Int) + (j : Int)) = (i : Int) + (j : Int) := by
    simp only [wu64, IntKind.wrap, IntKind.bits, IntKind.signed]
    try simp
    try omega
  rw [e1, e2, Int.fdiv_eq_ediv_of_nonneg _ (by omega), w64_in (by omega) (by omega)]
  omega
/-- Halving: what a search keeps. -/
def Bin (q : Rec → Bool) (l : List Rec) (i j : Nat) : Prop := i ≤ j ∧ j ≤ l.length ∧ (∀ t (ht : t < l.length), t < i → q l[t] = false) ∧ (∀ t (ht : t < l.length), j ≤ t → q l[t] = true)
def Mono (q : Rec → Bool) (l : List Rec) : Prop := ∀ (s t : Nat) (hs : s < l.length) (ht : t < l.length), s ≤ t → q l[s] = true → q l[t] = true
theorem Bin.low {q : Rec → Bool} {l : List Rec} {i j h : Nat} (hb : Bin q l i j) (hm : Mono q l) (h1 : i ≤ h) (h2 : h < j) (hl : h < l.length) (hq : q l[h] = false) : Bin q l (h + 1) j := by
  obtain ⟨b1, b2, b3, b4⟩ := hb
  refine ⟨by omega, b2, fun t ht hlt => ?_, b4⟩
  cases e : q l[t]
  · rfl
  · rw [hm t h ht hl (by omega) e] at hq; cases hq
theorem Bin.high {q : Rec → Bool} {l : List Rec} {i j h : Nat} (hb : Bin q l i j) (hm : Mono q l) (h1 : i ≤ h) (h2 : h < j) (hl : h < l.length) (hq : q l[h] = true) : Bin q l i h := by
  obtain ⟨b1, b2, b3, b4⟩ := hb
  exact ⟨by omega, by omega, b3, fun t ht hlt => hm h t hl ht hlt hq⟩
theorem Bin.fl {q : Rec → Bool} {l : List Rec} {i : Nat} (hb : Bin q l i i) : Pl.fl q l = i := by
  obtain ⟨b1, b2, b3, b4⟩ := hb
  exact fl_of q l i b2 b3 fun h => b4 i h (Nat.le_refl _)
theorem gt_mono {l : List Rec} (h : Srt l) (a : Int) : Mono (fun c => decide (c.1 > a)) l := fun s t hs ht hst hq => by
  have := h s t hs ht hst
  simp only [decide_eq_true_eq] at *
  omega
theorem sSearchZ (tr : List Rec) (hs : Srt tr) (hl : tr.length ≤ 100000) (ty lp : List V) (ft : ByteArray) (v a : Int) {K} (h : K (Pl.fl (fun c : Rec => decide (c.1 > a)) tr : Int) ft v a ty false true (RV tr) false true lp false true) :
    Xsort_Search (tr.length : Int) ty (RV tr) lp ft v a K := by
  unfold Xsort_Search Ysort_Search
  refine lp_ind (fun x => (x.1.2.2.2.1 - x.1.2.2.1).toNat) (fun x => ∃ i j : Nat, Bin (fun c : Rec => decide (c.1 > a)) tr i j ∧ x = ((((), (), (), ()), (0 : Int), (i : Int), (j : Int), ()), (ty, RV tr, lp, ft, v, ()), (a, ()), ())) ?_ ⟨0, tr.length, ⟨by omega, by omega, fun t ht h => by omega, fun t ht h => by omega⟩, rfl⟩
  rintro x ⟨i, j, hb, rfl⟩ k hk
  obtain ⟨b1, b2, _, _⟩ := id hb
  unfold Lsort_Search_0
  simp only [decide_eq_true_eq]
  by_cases e : i = j
  · subst e
    rw [if_neg (by omega)]
    rw [hb.fl] at h; exact h
  · rw [if_pos (by omega)]
    simp only [lt]
    rw [half (by omega)]
    have hlt : (i + j) / 2 < tr.length := by omega
    unfold Xzone_Index_1 Yzone_Index_1
    rw [RV_len, if_pos (by omega), Int.toNat_natCast]
    refine asR1 hlt ?_
    dsimp only
    have e1 : w64 ((((i + j) / 2 : Nat) : Int) + 1) = (((i + j) / 2 + 1 : Nat) : Int) := by rw [w64_in (by omega) (by omega)]; omega
    cases hq : decide ((tr[(i + j) / 2]).1 > a)
    · rw [if_pos (show (!false) = true from rfl), e1]
      refine hk _ ⟨(i + j) / 2 + 1, j, hb.low (gt_mono hs a) (by omega) (by omega) hlt hq, rfl⟩ ?_
      show ((j : Int) - (((i + j) / 2 + 1 : Nat) : Int)).toNat < ((j : Int) - (i : Int)).toNat
      omega
    · rw [if_neg (by simp)]
      refine hk _ ⟨i, (i + j) / 2, hb.high (gt_mono hs a) (by omega) (by omega) hlt hq, rfl⟩ ?_
      show ((((i + j) / 2 : Nat) : Int) - (i : Int)).toNat < ((j : Int) - (i : Int)).toNat
      omega
theorem zIndex (z : Zn) (hz : ZI z) (hs : Srt z.tr) (a : Int) {K : Int → Prop} (h : K ((indexN z a : Int) - 1)) : Xzone_Index (tupZ z) a K := by
  unfold Xzone_Index Yzone_Index
  simp only [tupZ_eq, RV_len]
  refine sSearchZ z.tr hs (by have := hz.tr; omega) _ _ _ _ _ ?_
  have h1 := fl_le (fun c : Rec => decide (c.1 > a)) z.tr
  have h2 := hz.tr
  rw [w64_in (by omega) (by omega)]
  exact h
theorem sSearchS (l : List Rec) (hs : Srt l) (hl : l.length ≤ 100000) (o f : Bool) (a : Int) {K} (h : ∀ o f, K (Pl.fl (fun c : Rec => decide (c.1 > a)) l : Int) a (RV l) o f) : Xsort_Search_1 (l.length : Int) a (RV l) o f K := by
  unfold Xsort_Search_1 Ysort_Search_1
  refine lp_ind (fun x => (x.1.2.2.2.1 - x.1.2.2.1).toNat) (fun x => ∃ (i j : Nat) (y : List V × Bool × Bool), Bin (fun c : Rec => decide (c.1 > a)) l i j ∧ x = ((((), (), (), ()), (0 : Int), (i : Int), (j : Int), ()), (RV l, ()), (a, ()), y, ())) ?_ ⟨0, l.length, _, ⟨by omega, by omega, fun t ht h => by omega, fun t ht h => by omega⟩, rfl⟩
  rintro x ⟨i, j, y, hb, rfl⟩ k hk
  obtain ⟨b1, b2, _, _⟩ := id hb
  unfold Lsort_Search_1_0
  simp only [decide_eq_true_eq]
  by_cases e : i = j
  · subst e
    rw [if_neg (by omega)]
    have := h false true
    rw [hb.fl] at this; exact this
  · rw [if_pos (by omega)]
    simp only [lt]
    rw [half (by omega)]
    have hlt : (i + j) / 2 < l.length := by omega
    unfold Xrecord_Sum_1_1 Yrecord_Sum_1_1
    rw [RV_len, if_pos (by omega), Int.toNat_natCast]
    refine asR1 hlt ?_
    dsimp only
    have e1 : w64 ((((i + j) / 2 : Nat) : Int) + 1) = (((i + j) / 2 + 1 : Nat) : Int) := by rw [w64_in (by omega) (by omega)]; omega
    cases hq : decide ((l[(i + j) / 2]).1 > a)
    · rw [if_pos (show (!false) = true from rfl), e1]
      refine hk _ ⟨(i + j) / 2 + 1, j, _, hb.low (gt_mono hs a) (by omega) (by omega) hlt hq, rfl⟩ ?_
      show ((j : Int) - (((i + j) / 2 + 1 : Nat) : Int)).toNat < ((j : Int) - (i : Int)).toNat
      omega
    · rw [if_neg (by simp)]
      refine hk _ ⟨i, (i + j) / 2, _, hb.high (gt_mono hs a) (by omega) (by omega) hlt hq, rfl⟩ ?_
      show ((((i + j) / 2 : Nat) : Int) - (i : Int)).toNat < ((j : Int) - (i : Int)).toNat
      omega
theorem sSum (l : List Rec) (hs : Srt (leapsR l)) (hl : l.length ≤ 100000) (a : Int) {K : Int → Prop} (h : K (sumR l a)) : Xrecord_Sum (RV l) a K := by
  unfold Xrecord_Sum Yrecord_Sum
  refine sLeaps l hl ?_
  rw [RV_len]
  have hl2 : (leapsR l).length ≤ 100000 := by rw [leapsR_len]; split <;> omega
  refine sSearchS (leapsR l) hs hl2 _ _ _ fun o f => ?_
  unfold sumR at h
  have h1 := fl_le (fun c : Rec => decide (c.1 > a)) (leapsR l)
  generalize Pl.fl (fun c : Rec => decide (c.1 > a)) (leapsR l) = m at *
  simp only [beq_iff_eq]
  by_cases e : m = 0
  · subst e
    rw [if_pos (show ((0 : Nat) : Int) = 0 from rfl)]
    exact h
  · rw [if_neg (by omega)]
    have e1 : w64 ((m : Int) - 1) = ((m - 1 : Nat) : Int) := by rw [w64_in (by omega) (by omega)]; omega
    rw [e1, RV_len, if_pos (by omega), Int.toNat_natCast]
    refine asR2 (by omega) ?_
    have : ((leapsR l).take m).getLast? = some ((leapsR l)[m - 1]'(by omega)) := by
      rw [List.getLast?_eq_getElem?, List.length_take, Nat.min_eq_left h1, List.getElem?_take, if_pos (by omega), List.getElem?_eq_getElem (by omega)]
    rw [this] at h
    exact h
end Go.Proofs.YtenaflbcnkalbaaGreatDoor
end
section
set_option linter.unusedVariables false
set_option linter.unusedSimpArgs false
namespace Go.Proofs.YtenaflbcnkalbaaGreatDoor
open Go Go.Proofs.YtenaflbcnkalbaaGreatDoor.Eng Go.Proofs.YtenaflbcnkalbaaGreatDoor.Pl
set_option linter.unusedVariables false
set_option linter.unusedSimpArgs false
set_option maxRecDepth 100000
set_option maxHeartbeats 2000000
theorem trOk_cons (n : Nat) (b : Option Int) (c : Rec) (r : List Rec) : trOk n b (c :: r) = true ↔ ((0 ≤ c.2 ∧ c.2 < n) ∧ (∀ a, b = some a → c.1 > a)) ∧ trOk n (some c.1) r = true := by
  cases b with
  | none => simp [trOk]
  | some a => simp [trOk]
theorem sallTr (ty : List Ty) (tr : List Rec) (hl : tr.length ≤ 100000) (lp : List V) (ft : ByteArray) (v : Int) {K} (h : K (trOk ty.length none tr) ft v (TV ty) false true (RV tr) false true lp false true) :
    Xzone_all_api_Trans_ (RV tr) (TV ty) (RV tr) lp ft v K := by
  unfold Xzone_all_api_Trans_ Yzone_all_api_Trans_
  rw [RV_len]
  refine lp_ind (fun x => tr.length - x.1.2.2.2.2.1.toNat) (fun x => ∃ (j : Nat) (b : Option Int), j ≤ tr.length ∧ x = ((((), (), ()), false, RV tr, (tr.length : Int), (j : Int), ()), (TV ty, RV tr, lp, ft, v, ()), ()) ∧ trOk ty.length b (tr.drop j) = trOk ty.length none tr ∧ (j = 0 → b = none) ∧ (∀ (h0 : 0 < j) (hj : j - 1 < tr.length), b = some (tr[j - 1]).1)) ?_ ⟨0, none, by omega, rfl, rfl, fun _ => rfl, fun h => absurd h (by omega)⟩
  rintro x ⟨j, b, hj, rfl, hok, hb0, hb1⟩ k hk
  unfold Lzone_all_api_Trans__0
  simp only [decide_eq_true_eq, RV_len]
  by_cases e : j = tr.length
  · rw [if_neg (by omega)]
    have : trOk ty.length none tr = true := by rw [← hok, e, List.drop_length]; rfl
    rw [this] at h; exact h
  · have hj' : j < tr.length := by omega
    rw [Int.toNat_natCast, if_pos (by omega), if_pos (by omega)]
    refine asR1 hj' (asR2 hj' ?_)
    have hd : tr.drop j = tr[j] :: tr.drop (j + 1) := List.drop_eq_getElem_cons hj'
    rw [hd] at hok
    have hcons := trOk_cons ty.length b tr[j] (tr.drop (j + 1))
    rw [hok] at hcons
    have e1 : w64 ((j : Int) + 1) = ((j + 1 : Nat) : Int) := by rw [w64_in (by omega) (by omega)]; omega
    have bad : ∀ w, w = false → ¬ ((0 ≤ (tr[j]).2 ∧ (tr[j]).2 < ty.length) ∧ (∀ a, b = some a → (tr[j]).1 > a)) → K w ft v (TV ty) false true (RV tr) false true lp false true := fun w hw hn => by
      have : trOk ty.length none tr = false := by
        cases hr : trOk ty.length none tr
        · rfl
        · exact absurd (hcons.1 hr).1 hn
      rw [this] at h; rw [hw]; exact h
    have good : ((0 ≤ (tr[j]).2 ∧ (tr[j]).2 < ty.length) ∧ (∀ a, b = some a → (tr[j]).1 > a)) → k ((((), (), ()), false, RV tr, (tr.length : Int), ((j + 1 : Nat) : Int), ()), (TV ty, RV tr, lp, ft, v, ()), ()) := fun hg => by
      refine hk _ ⟨j + 1, some (tr[j]).1, by omega, rfl, ?_, fun h => absurd h (by omega), fun h0 hj => rfl⟩ ?_
      · rw [Bool.eq_iff_iff]
        exact ⟨fun hr => hcons.2 ⟨hg, hr⟩, fun hr => (hcons.1 hr).2⟩
      · show tr.length - ((j + 1 : Nat) : Int).toNat < tr.length - ((j : Nat) : Int).toNat
        omega
    unfold Xzone_Right_2 Yzone_Right_2
    simp only [decide_eq_true_eq, TV_len, RV_len, beq_iff_eq, e1]
    by_cases c1 : (tr[j]).2 ≥ 0
    · rw [if_pos c1]
      by_cases c2 : (tr[j]).2 < (ty.length : Int)
      · rw [if_pos c2]
        by_cases c3 : j = 0
        · rw [if_pos (by omega), if_neg (by simp)]
          exact good ⟨⟨c1, c2⟩, fun a ha => by rw [hb0 c3] at ha; cases ha⟩
        · rw [if_neg (by omega)]
          have e2 : w64 ((j : Int) - 1) = ((j - 1 : Nat) : Int) := by rw [w64_in (by omega) (by omega)]; omega
          rw [e2, if_pos (by omega), Int.toNat_natCast]
          refine asR1 (by omega) ?_
          have hb := hb1 (by omega) (by omega)
          by_cases c4 : (tr[j]).1 > (tr[j - 1]'(by omega)).1
          · rw [if_neg (by simpa using c4)]
            exact good ⟨⟨c1, c2⟩, fun a ha => by rw [hb] at ha; cases ha; exact c4⟩
          · rw [if_pos (by simpa using c4)]
            exact bad _ rfl fun hn => c4 (hn.2 _ hb)
      · rw [if_neg c2, if_pos (show (!false) = true from rfl)]
        exact bad _ rfl fun hn => c2 hn.1.2
    · rw [if_neg c1, if_pos (show (!false) = true from rfl)]
      exact bad _ rfl fun hn => c1 hn.1.1
theorem sodd (k a b c x : Int) {K : Bool → Prop} (h : K (oddR x)) : Xzone_odd (k, a, b, c, x, ()) K := by
  unfold Xzone_odd Yzone_odd
  unfold oddR at h
  simp only [decide_eq_true_eq]
  by_cases h1 : x < 0
  · rw [if_pos h1]
    have : decide (x < 0) = true := decide_eq_true h1
    rw [this] at h; exact h
  · rw [if_neg h1]
    have : decide (x < 0) = false := decide_eq_false h1
    rw [this] at h; exact h
theorem S_nil (l : List UInt8) : (ByteArray.toList (S l) == ByteArray.toList (ByteArray.mk #[])) = l.isEmpty := by
  rw [show ByteArray.mk #[] = S [] from rfl, S_toList, S_toList]
  cases l <;> rfl
theorem sends (z : Zn) (h : ZI z) (X Y L) {K : Bool → Prop} (hk : K (endsOk z)) : Xzone_ends (X, Y, L, S z.ft, z.v, ()) K := by
  unfold Xzone_ends Yzone_ends
  simp only [S_nil]
  unfold endsOk at hk
  cases e : z.ft.isEmpty
  · rw [e] at hk
    rw [if_neg (by simp)]
    refine sfootParse z.ft (by have := h.ft; omega) ?_
    refine sodd _ _ _ _ _ ?_
    simp only [Bool.false_or] at hk
    generalize (Ft.parse z.ft).1 = f at *
    generalize (Ft.parse z.ft).2 = o at *
    have ge : ∀ n : Int, n = 3 ∨ n = 2 → True := fun _ _ => trivial
    cases h1 : oddR f.fr.x
    · rw [if_neg (by simp)]
      refine sodd _ _ _ _ _ ?_
      rw [h1] at hk
      cases h2 : oddR f.to.x
      · rw [h2] at hk
        rw [if_neg (by simp)]
        cases o
        · simpa using hk
        · simpa using hk
      · rw [h2] at hk
        rw [if_pos rfl]
        cases o
        · simpa using hk
        · simpa using hk
    · rw [h1] at hk
      rw [if_pos rfl]
      cases o
      · simpa using hk
      · simpa using hk
  · rw [e] at hk
    rw [if_pos rfl]
    exact hk
theorem sRight (z : Zn) (h : ZI z) {K : Bool → Prop} (hk : K (zoneRight z)) : Xzone_Right (tupZ z) K := by
  show Xzone_Right (TV z.ty, RV z.tr, RV z.lp, S z.ft, z.v, ()) K
  unfold Xzone_Right Yzone_Right
  dsimp only
  unfold zoneRight at hk
  refine scount z h fun r => ?_
  cases e1 : countOk z
  · rw [e1] at hk
    rw [if_pos (show (!false) = true from rfl)]
    simpa using hk
  rw [e1] at hk
  rw [if_neg (by simp)]
  refine sRecRight z.lp h.ri (by have := h.lp; omega) ?_
  cases e2 : recRight z.lp
  · rw [e2] at hk
    rw [if_pos (show (!false) = true from rfl)]
    simpa using hk
  rw [e2] at hk
  rw [if_neg (by simp)]
  refine sExpiry z.lp (by have := h.lp; omega) fun n => ?_
  have rest : ∀ {K : Bool → Prop}, K (z.ty.all (fun t => decide (-89999 ≤ t.1 ∧ t.1 ≤ 93599)) && trOk z.ty.length none z.tr && endsOk z) → Xzone_all_api_Type_ (TV z.ty) (fun r20 =>
      Xzone_all_api_Trans_ (RV z.tr) (TV z.ty) (RV z.tr) (RV z.lp) (S z.ft) z.v (fun r21 r22 r23 r24 r25 r26 r27 r28 r29 r30 r31 r32 =>
      (if r20 = true then (if r21 = true then Xzone_ends (r24, r27, r30, r22, r23, ()) (fun r33 => K r33) else K false) else K false))) := by
    intro K hk
    refine sallT z.ty (by have := h.ty; omega) ?_
    refine sallTr z.ty z.tr (by have := h.tr; omega) _ _ _ ?_
    cases e4 : z.ty.all (fun t => decide (-89999 ≤ t.1 ∧ t.1 ≤ 93599))
    · rw [e4] at hk
      rw [if_neg (by simp)]
      simpa using hk
    rw [e4] at hk
    rw [if_pos rfl]
    cases e5 : trOk z.ty.length none z.tr
    · rw [e5] at hk
      rw [if_neg (by simp)]
      simpa using hk
    rw [e5] at hk
    rw [if_pos rfl]
    exact sends z h _ _ _ (by simpa using hk)
  cases e3 : lastExp z.lp
  · rw [e3] at hk
    rw [if_neg (by simp)]
    exact rest (by simpa [Bool.and_assoc] using hk)
  · rw [e3] at hk
    rw [if_pos rfl]
    by_cases e6 : z.v < 4
    · rw [if_pos (by simpa using e6)]
      have : decide (z.v ≥ 4) = false := by simp; omega
      rw [this] at hk
      simpa using hk
    · rw [if_neg (by simpa using e6)]
      have : decide (z.v ≥ 4) = true := by simp; omega
      rw [this] at hk
      exact rest (by simpa [Bool.and_assoc] using hk)
end Go.Proofs.YtenaflbcnkalbaaGreatDoor
end
section
set_option linter.unusedVariables false
set_option linter.unusedSimpArgs false
namespace Go.Proofs.YtenaflbcnkalbaaGreatDoor
open Go Go.Proofs.YtenaflbcnkalbaaGreatDoor.Eng Go.Proofs.YtenaflbcnkalbaaGreatDoor.Pl
set_option linter.unusedVariables false
set_option linter.unusedSimpArgs false
set_option maxRecDepth 100000
set_option maxHeartbeats 2000000
theorem trOk_all (n : Nat) : ∀ (l : List Rec) (b : Option Int), trOk n b l = true → (∀ i (h : i < l.length), (∀ a, b = some a → (l[i]).1 > a) ∧ 0 ≤ (l[i]).2 ∧ (l[i]).2 < n) ∧ (∀ (s t : Nat) (hs : s < l.length) (ht : t < l.length), s < t → (l[s]).1 < (l[t]).1)
  | [], b, h => ⟨fun i h => by simp at h, fun s t hs => by simp at hs⟩
  | c :: r, b, h => by
    obtain ⟨⟨h1, h2⟩, h3⟩ := (trOk_cons n b c r).1 h
    obtain ⟨ih1, ih2⟩ := trOk_all n r (some c.1) h3
    refine ⟨fun i hi => ?_, fun s t hs ht hst => ?_⟩
    · cases i with
      | zero => exact ⟨h2, h1⟩
      | succ i =>
        obtain ⟨q1, q2⟩ := ih1 i (by simpa using hi)
        refine ⟨fun a ha => ?_, q2⟩
        have := q1 _ rfl
        have := h2 a ha
        simp only [List.getElem_cons_succ]
        omega
    · cases t with
      | zero => omega
      | succ t =>
        cases s with
        | zero => exact (ih1 t (by simpa using ht)).1 _ rfl
        | succ s => exact ih2 s t (by simpa using hs) (by simpa using ht) (by omega)
theorem srt_tr {n : Nat} {l : List Rec} (h : trOk n none l = true) : Srt l := fun s t hs ht hst => by
  rcases Nat.lt_or_ge s t with h1 | h1
  · have := (trOk_all n l none h).2 s t hs ht h1; omega
  · have : s = t := by omega
    subst this; omega
theorem recOk_all : ∀ (l : List Rec) (k : Nat) (b : Rec), recOk k b l = true → (∀ i (h : i < l.length), (0 < k → b.1 ≤ (l[i]).1) ∧ 0 ≤ (l[i]).1) ∧ (∀ (s t : Nat) (hs : s < l.length) (ht : t < l.length), s < t → (l[s]).1 ≤ (l[t]).1)
  | [], k, b, h => ⟨fun i h => by simp at h, fun s t hs => by simp at hs⟩
  | c :: r, k, b, h => by
    obtain ⟨⟨h1, h2, h3, h4⟩, h5⟩ := (recOk_cons k b c r).1 h
    obtain ⟨ih1, ih2⟩ := recOk_all r (k + 1) c h5
    refine ⟨fun i hi => ?_, fun s t hs ht hst => ?_⟩
    · cases i with
      | zero => exact ⟨fun h => by simp only [List.getElem_cons_zero]; omega, h2⟩
      | succ i =>
        obtain ⟨q1, q2⟩ := ih1 i (by simpa using hi)
        refine ⟨fun hk => ?_, q2⟩
        have := q1 (by omega)
        simp only [List.getElem_cons_succ]
        omega
    · cases t with
      | zero => omega
      | succ t =>
        cases s with
        | zero => exact (ih1 t (by simpa using ht)).1 (by omega)
        | succ s => exact ih2 s t (by simpa using hs) (by simpa using ht) (by omega)
theorem srt_rec {l : List Rec} (h : recRight l = true) : Srt l := fun s t hs ht hst => by
  rcases Nat.lt_or_ge s t with h1 | h1
  · have := (recOk_all l 0 _ h).2 s t hs ht h1; omega
  · have : s = t := by omega
    subst this; omega
theorem srt_leaps {l : List Rec} (h : Srt l) : Srt (leapsR l) := by
  unfold leapsR
  split
  · intro s t hs ht hst
    rw [List.getElem_take, List.getElem_take]
    exact h s t _ _ hst
  · exact h
structure ZR (z : Zn) : Prop extends ZI z where
  right : zoneRight z = true
theorem ZR.all {z : Zn} (h : ZR z) : countOk z = true ∧ recRight z.lp = true ∧ (lastExp z.lp = true → z.v ≥ 4) ∧ (z.ty.all (fun t => decide (-89999 ≤ t.1 ∧ t.1 ≤ 93599)) = true) ∧ trOk z.ty.length none z.tr = true ∧ endsOk z = true := by
  have := h.right
  unfold zoneRight at this
  simp only [Bool.and_eq_true] at this
  obtain ⟨⟨⟨⟨⟨h1, h2⟩, h3⟩, h4⟩, h5⟩, h6⟩ := this
  refine ⟨h1, h2, fun he => ?_, h4, h5, h6⟩
  rw [he] at h3
  simpa using h3
theorem ZR.one {z : Zn} (h : ZR z) : 1 ≤ z.ty.length := by
  have := h.all.1
  unfold countOk nin at this
  simp only [Bool.and_eq_true, decide_eq_true_eq] at this
  omega
theorem ZR.st {z : Zn} (h : ZR z) : Srt z.tr := srt_tr h.all.2.2.2.2.1
theorem ZR.sl {z : Zn} (h : ZR z) : Srt (leapsR z.lp) := srt_leaps (srt_rec h.all.2.1)
theorem zPosix (z : Zn) (h : ZR z) (a : Int) {K : Int → Prop} (hk : K (posixR z a)) : Xzone_Posix (tupZ z) a K := by
  show Xzone_Posix (TV z.ty, RV z.tr, RV z.lp, S z.ft, z.v, ()) a K
  unfold Xzone_Posix Yzone_Posix
  exact sSum z.lp h.sl (by have := h.lp; omega) a hk
theorem headD_at {α : Type} (l : List α) (d : α) (h : 0 < l.length) : l.headD d = l[0] := by
  cases l with
  | nil => simp at h
  | cons x r => rfl
abbrev tupT (t : Ty) : Int × Bool × ByteArray × Unit := (t.1, t.2.1, S t.2.2, ())
theorem w64_rng (n : Int) : -9223372036854775808 ≤ w64 n ∧ w64 n ≤ 9223372036854775807 := by
  simp only [w64, IntKind.wrap, IntKind.bits, IntKind.signed]
  try simp
  try omega
theorem zFoot (f : Ft) (p : Int) (hp : -9223372036854775808 ≤ p ∧ p ≤ 9223372036854775807) (hf : f.ok = true) {K} (h : K (tupT (f.look p))) : Xfoot_Lookup (tupFt f) p K := by
  obtain ⟨o1, o2, _⟩ := ok_so hf
  refine sfootLookup f p hp ⟨by omega, by omega⟩ ?_
  unfold Ft.look at h
  by_cases e : f.sum p
  · rw [if_pos e] at h ⊢; exact h
  · rw [if_neg e] at h ⊢; exact h
theorem zLookup (z : Zn) (h : ZR z) (a : Int) {K} (hk : K (tupT (lookZ z a))) : Xzone_Lookup (tupZ z) a K := by
  unfold Xzone_Lookup Yzone_Lookup
  refine zIndex z h.toZI h.st a ?_
  have hle := fl_le (fun c : Rec => decide (c.1 > a)) z.tr
  have htr := h.tr
  have h1 := h.one
  unfold lookZ at hk
  have hn : indexN z a = Pl.fl (fun c : Rec => decide (c.1 > a)) z.tr := rfl
  rw [← hn] at hle
  generalize indexN z a = m at *
  have e1 : w64 ((m : Int) - 1 + 1) = (m : Int) := by rw [w64_in (by omega) (by omega)]; omega
  simp only [tupZ_eq, S_nil, TV_len, RV_len, e1]
  have found : ¬ (z.ft ≠ [] ∧ m = z.tr.length) → (if decide ((m : Int) - 1 < 0) = true then
      (if (0 : Int) ≤ 0 ∧ 0 < (z.ty.length : Int) then
      (Eng.asInt IntKind.i64 (Eng.getC (TV z.ty) (0 : Nat) (0 : Nat)) False fun n7 =>
      (Eng.asBool (Eng.getC (TV z.ty) (0 : Nat) (1 : Nat)) False fun b8 =>
      (Eng.asStr (Eng.getC (TV z.ty) (0 : Nat) (2 : Nat)) False fun t9 => K (n7, b8, t9, ())))) else False)
      else
      (if 0 ≤ (m : Int) - 1 ∧ (m : Int) - 1 < (z.tr.length : Int) then
      (Eng.asInt IntKind.i64 (Eng.getC (RV z.tr) (Int.toNat ((m : Int) - 1)) (1 : Nat)) False fun n10 =>
      (if 0 ≤ n10 ∧ n10 < (z.ty.length : Int) then
      (Eng.asInt IntKind.i64 (Eng.getC (TV z.ty) (Int.toNat n10) (0 : Nat)) False fun n11 =>
      (Eng.asBool (Eng.getC (TV z.ty) (Int.toNat n10) (1 : Nat)) False fun b12 =>
      (Eng.asStr (Eng.getC (TV z.ty) (Int.toNat n10) (2 : Nat)) False fun t13 => K (n11, b12, t13, ()))))
      else False)) else False)) := fun hno => by
    rw [if_neg hno] at hk
    by_cases hm : m = 0
    · subst hm
      rw [if_pos (by simp), if_pos (by omega)]
      refine asT1 (by omega) (asT2 (by omega) (asT3 (by omega) ?_))
      have := headD_at z.ty (0, false, []) (by omega)
      simp only [List.take_zero, List.getLast?_nil] at hk
      rw [this] at hk
      exact hk
    · rw [if_neg (by simp; omega), if_pos (by omega)]
      have e2 : Int.toNat ((m : Int) - 1) = m - 1 := by omega
      rw [e2]
      refine asR2 (by omega) ?_
      obtain ⟨_, q1, q2⟩ := (trOk_all _ _ _ h.all.2.2.2.2.1).1 (m - 1) (by omega)
      have hl : (z.tr.take m).getLast? = some (z.tr[m - 1]'(by omega)) := by
        rw [List.getLast?_eq_getElem?, List.length_take, Nat.min_eq_left hle, List.getElem?_take, if_pos (by omega), List.getElem?_eq_getElem (by omega)]
      rw [hl] at hk
      simp only at hk
      rw [if_pos ⟨q1, q2⟩]
      refine asT1 (by omega) (asT2 (by omega) (asT3 (by omega) ?_))
      rw [getD_at z.ty _ _ (by omega)] at hk
      exact hk
  cases e : z.ft.isEmpty
  · have hne : z.ft ≠ [] := by
      intro hh; rw [hh] at e; cases e
    rw [if_pos (show (!false) = true from rfl)]
    by_cases hm : m = z.tr.length
    · rw [if_pos (by simp [hm])]
      rw [if_pos ⟨hne, hm⟩] at hk
      have hp : (Ft.parse z.ft).2 = true := by
        have := h.all.2.2.2.2.2
        unfold endsOk at this
        rw [e] at this
        simp only [Bool.false_or, Bool.and_eq_true] at this
        exact this.1
      refine sfootParse z.ft (by have := h.ft; omega) ?_
      refine zPosix z h a ?_
      exact zFoot _ _ (w64_rng _) (parse_ok _ hp) hk
    · rw [if_neg (by simp; omega)]
      exact found fun hh => hm hh.2
  · have hne : z.ft = [] := by
      cases hz : z.ft with
      | nil => rfl
      | cons x r => rw [hz] at e; cases e
    rw [if_neg (by simp)]
    exact found fun hh => hh.1 hne
end Go.Proofs.YtenaflbcnkalbaaGreatDoor
end
section
set_option linter.unusedVariables false
set_option linter.unusedSimpArgs false
namespace Go.Proofs.YtenaflbcnkalbaaGreatDoor
open Go Go.Proofs.YtenaflbcnkalbaaGreatDoor.Eng Go.Proofs.YtenaflbcnkalbaaGreatDoor.Pl
set_option linter.unusedVariables false
set_option linter.unusedSimpArgs false
set_option maxRecDepth 100000
set_option maxHeartbeats 2000000
theorem sEqR1 (a b : List Rec) (hl : a.length ≤ 100000) (hb : b.length ≤ 100000) {K : Bool → Prop} (h : K (a == b)) : Xslices_Equal___api_Trans_api_Trans_ (RV a) (RV b) K := by
  unfold Xslices_Equal___api_Trans_api_Trans_ Yslices_Equal___api_Trans_api_Trans_
  rw [RV_len, RV_len]
  by_cases e : a.length = b.length
  · rw [if_neg (by simp [e])]
    refine lp_ind (fun x => a.length - x.1.2.2.2.2.1.toNat) (fun x => ∃ j : Nat, j ≤ a.length ∧ x = ((RV a, RV b, false, (a.length : Int), (j : Int), ()), ()) ∧ a.take j = b.take j) ?_ ⟨0, by omega, rfl, rfl⟩
    rintro x ⟨j, hj, rfl, hall⟩ k hk
    unfold Lslices_Equal___api_Trans_api_Trans__0
    simp only [decide_eq_true_eq, RV_len]
    by_cases ej : j = a.length
    · rw [if_neg (by omega)]
      rw [ej, List.take_length, e, List.take_length] at hall
      have : (a == b) = true := by rw [hall]; exact beq_self_eq_true _
      rw [this] at h; exact h
    · have h1 : j < a.length := by omega
      have h2 : j < b.length := by omega
      rw [Int.toNat_natCast, if_pos (by omega), if_pos (by omega)]
      refine asR1 h1 (asR2 h1 ?_)
      rw [if_pos (by omega)]
      refine asR1 h2 (asR2 h2 ?_)
      have e1 : w64 ((j : Int) + 1) = ((j + 1 : Nat) : Int) := by rw [w64_in (by omega) (by omega)]; omega
      simp only [lt, e1]
      by_cases ee : a[j] = b[j]
      · rw [if_neg (by rw [ee]; simp)]
        refine hk _ ⟨j + 1, by omega, rfl, ?_⟩ ?_
        · rw [List.take_succ_eq_append_getElem h1, List.take_succ_eq_append_getElem h2, hall, ee]
        · show a.length - ((j + 1 : Nat) : Int).toNat < a.length - ((j : Nat) : Int).toNat
          omega
      · rw [if_pos (by
          simp only [Bool.not_eq_true', Bool.and_true, Bool.and_eq_false_iff, beq_eq_false_iff_ne, ne_eq]
          by_cases q : (a[j]).1 = (b[j]).1
          · exact .inr fun q2 => ee (Prod.ext q q2)
          · exact .inl q)]
        have : (a == b) = false := by
          rw [beq_eq_false_iff_ne]; intro hh; subst hh; exact ee rfl
        rw [this] at h; exact h
  · rw [if_pos (by simp; omega)]
    have : (a == b) = false := by
      rw [beq_eq_false_iff_ne]; intro hh; exact e (by rw [hh])
    rw [this] at h; exact h
theorem sEqR2 (a b : List Rec) (hl : a.length ≤ 100000) (hb : b.length ≤ 100000) {K : Bool → Prop} (h : K (a == b)) : Xslices_Equal___api_Corr_api_Corr_ (RV a) (RV b) K := by
  unfold Xslices_Equal___api_Corr_api_Corr_ Yslices_Equal___api_Corr_api_Corr_
  rw [RV_len, RV_len]
  by_cases e : a.length = b.length
  · rw [if_neg (by simp [e])]
    refine lp_ind (fun x => a.length - x.1.2.2.2.2.1.toNat) (fun x => ∃ j : Nat, j ≤ a.length ∧ x = ((RV a, RV b, false, (a.length : Int), (j : Int), ()), ()) ∧ a.take j = b.take j) ?_ ⟨0, by omega, rfl, rfl⟩
    rintro x ⟨j, hj, rfl, hall⟩ k hk
    unfold Lslices_Equal___api_Corr_api_Corr__0
    simp only [decide_eq_true_eq, RV_len]
    by_cases ej : j = a.length
    · rw [if_neg (by omega)]
      rw [ej, List.take_length, e, List.take_length] at hall
      have : (a == b) = true := by rw [hall]; exact beq_self_eq_true _
      rw [this] at h; exact h
    · have h1 : j < a.length := by omega
      have h2 : j < b.length := by omega
      rw [Int.toNat_natCast, if_pos (by omega), if_pos (by omega)]
      refine asR1 h1 (asR2 h1 ?_)
      rw [if_pos (by omega)]
      refine asR1 h2 (asR2 h2 ?_)
      have e1 : w64 ((j : Int) + 1) = ((j + 1 : Nat) : Int) := by rw [w64_in (by omega) (by omega)]; omega
      simp only [lt, e1]
      by_cases ee : a[j] = b[j]
      · rw [if_neg (by rw [ee]; simp)]
        refine hk _ ⟨j + 1, by omega, rfl, ?_⟩ ?_
        · rw [List.take_succ_eq_append_getElem h1, List.take_succ_eq_append_getElem h2, hall, ee]
        · show a.length - ((j + 1 : Nat) : Int).toNat < a.length - ((j : Nat) : Int).toNat
          omega
      · rw [if_pos (by
          simp only [Bool.not_eq_true', Bool.and_true, Bool.and_eq_false_iff, beq_eq_false_iff_ne, ne_eq]
          by_cases q : (a[j]).1 = (b[j]).1
          · exact .inr fun q2 => ee (Prod.ext q q2)
          · exact .inl q)]
        have : (a == b) = false := by
          rw [beq_eq_false_iff_ne]; intro hh; subst hh; exact ee rfl
        rw [this] at h; exact h
  · rw [if_pos (by simp; omega)]
    have : (a == b) = false := by
      rw [beq_eq_false_iff_ne]; intro hh; exact e (by rw [hh])
    rw [this] at h; exact h
theorem sEqT (a b : List Ty) (hl : a.length ≤ 100000) (hb : b.length ≤ 100000) {K : Bool → Prop} (h : K (a == b)) : Xslices_Equal___api_Type_api_Type_ (TV a) (TV b) K := by
  unfold Xslices_Equal___api_Type_api_Type_ Yslices_Equal___api_Type_api_Type_
  rw [TV_len, TV_len]
  by_cases e : a.length = b.length
  · rw [if_neg (by simp [e])]
    refine lp_ind (fun x => a.length - x.1.2.2.2.2.1.toNat) (fun x => ∃ j : Nat, j ≤ a.length ∧ x = ((TV a, TV b, false, (a.length : Int), (j : Int), ()), ()) ∧ a.take j = b.take j) ?_ ⟨0, by omega, rfl, rfl⟩
    rintro x ⟨j, hj, rfl, hall⟩ k hk
    unfold Lslices_Equal___api_Type_api_Type__0
    simp only [decide_eq_true_eq, TV_len]
    by_cases ej : j = a.length
    · rw [if_neg (by omega)]
      rw [ej, List.take_length, e, List.take_length] at hall
      have : (a == b) = true := by rw [hall]; exact beq_self_eq_true _
      rw [this] at h; exact h
    · have h1 : j < a.length := by omega
      have h2 : j < b.length := by omega
      rw [Int.toNat_natCast, if_pos (by omega), if_pos (by omega)]
      refine asT1 h1 (asT2 h1 (asT3 h1 ?_))
      rw [if_pos (by omega)]
      refine asT1 h2 (asT2 h2 (asT3 h2 ?_))
      have e1 : w64 ((j : Int) + 1) = ((j + 1 : Nat) : Int) := by rw [w64_in (by omega) (by omega)]; omega
      simp only [lt, e1, S_toList]
      by_cases ee : a[j] = b[j]
      · rw [if_neg (by rw [ee]; simp)]
        refine hk _ ⟨j + 1, by omega, rfl, ?_⟩ ?_
        · rw [List.take_succ_eq_append_getElem h1, List.take_succ_eq_append_getElem h2, hall, ee]
        · show a.length - ((j + 1 : Nat) : Int).toNat < a.length - ((j : Nat) : Int).toNat
          omega
      · rw [if_pos (by
          simp only [Bool.not_eq_true', Bool.and_true, Bool.and_eq_false_iff, beq_eq_false_iff_ne, ne_eq]
          by_cases q : (a[j]).1 = (b[j]).1
          · by_cases q3 : (a[j]).2.1 = (b[j]).2.1
            · exact .inr (.inr fun q2 => ee (Prod.ext q (Prod.ext q3 q2)))
            · exact .inr (.inl q3)
          · exact .inl q)]
        have : (a == b) = false := by
          rw [beq_eq_false_iff_ne]; intro hh; subst hh; exact ee rfl
        rw [this] at h; exact h
  · rw [if_pos (by simp; omega)]
    have : (a == b) = false := by
      rw [beq_eq_false_iff_ne]; intro hh; exact e (by rw [hh])
    rw [this] at h; exact h
def sameZ (a b : Zn) : Bool := a.ty == b.ty && a.tr == b.tr && a.lp == b.lp && a.ft == b.ft && a.v == b.v
theorem zSame (a b : Zn) (ha : ZI a) (hb : ZI b) {K : Bool → Prop} (h : K (sameZ a b)) : Xzone_Same (tupZ a) (tupZ b) K := by
  show Xzone_Same (TV a.ty, RV a.tr, RV a.lp, S a.ft, a.v, ()) (TV b.ty, RV b.tr, RV b.lp, S b.ft, b.v, ()) K
  unfold Xzone_Same Yzone_Same
  dsimp only
  unfold sameZ at h
  refine sEqT a.ty b.ty (by have := ha.ty; omega) (by have := hb.ty; omega) ?_
  cases e1 : a.ty == b.ty
  · rw [e1] at h; rw [if_neg (by simp)]; simpa using h
  rw [e1] at h; rw [if_pos rfl]
  refine sEqR1 a.tr b.tr (by have := ha.tr; omega) (by have := hb.tr; omega) ?_
  cases e2 : a.tr == b.tr
  · rw [e2] at h; rw [if_neg (by simp)]; simpa using h
  rw [e2] at h; rw [if_pos rfl]
  refine sEqR2 a.lp b.lp (by have := ha.lp; omega) (by have := hb.lp; omega) ?_
  cases e3 : a.lp == b.lp
  · rw [e3] at h; rw [if_neg (by simp)]; simpa using h
  rw [e3] at h; rw [if_pos rfl, S_toList, S_toList]
  cases e4 : a.ft == b.ft
  · rw [e4] at h; rw [if_neg (by simp)]; simpa using h
  rw [e4] at h; rw [if_pos rfl]
  simpa using h
theorem sFew (z : Zn) (hl : z.ty.length ≤ 9223372036854775807) {K : Bool → Prop} (h1 : (z.ty.length ≤ 100 ∧ z.tr.length ≤ 300 ∧ z.lp.length ≤ 300 ∧ z.ft.length ≤ 200 ∧ (∀ t ∈ z.ty, t.2.2.length ≤ 100)) → K true) (h2 : K false) : Xepactlaw16_Few (tupZ z) K := by
  show Xepactlaw16_Few (TV z.ty, RV z.tr, RV z.lp, S z.ft, z.v, ()) K
  unfold Xepactlaw16_Few Yepactlaw16_Few
  have fin : (∀ i (h : i < z.ty.length), i < 100 → ((z.ty[i]).2.2).length ≤ 100) → (if decide ((z.ty.length : Int) ≤ 100) = true then (if decide ((z.tr.length : Int) ≤ 300) = true then (if decide ((z.lp.length : Int) ≤ 300) = true then K (decide (((S z.ft).size : Int) ≤ 200)) else K false) else K false) else K false) := fun hall => by
    rw [S_size]
    by_cases c1 : (z.ty.length : Int) ≤ 100
    · rw [if_pos (decide_eq_true c1)]
      by_cases c2 : (z.tr.length : Int) ≤ 300
      · rw [if_pos (decide_eq_true c2)]
        by_cases c3 : (z.lp.length : Int) ≤ 300
        · rw [if_pos (decide_eq_true c3)]
          by_cases c4 : (z.ft.length : Int) ≤ 200
          · rw [decide_eq_true c4]
            refine h1 ⟨by omega, by omega, by omega, by omega, fun t ht => ?_⟩
            obtain ⟨i, hi, rfl⟩ := List.getElem_of_mem ht
            exact hall i hi (by omega)
          · rw [decide_eq_false c4]; exact h2
        · rw [if_neg (by simpa using c3)]; exact h2
      · rw [if_neg (by simpa using c2)]; exact h2
    · rw [if_neg (by simpa using c1)]; exact h2
  refine lp_ind (fun x => 101 - x.1.2.2.1.toNat) (fun x => ∃ j : Nat, j ≤ 100 ∧ j ≤ z.ty.length ∧ x = (((), false, (j : Int), ()), (TV z.ty, RV z.tr, RV z.lp, S z.ft, z.v, ()), ()) ∧ (∀ i (h : i < z.ty.length), i < j → ((z.ty[i]).2.2).length ≤ 100)) ?_ ⟨0, by omega, by omega, rfl, fun i h hi => by omega⟩
  rintro x ⟨j, hj, hj2, rfl, hall⟩ k hk
  unfold Lepactlaw16_Few_0
  dsimp only
  rw [TV_len, RV_len, RV_len]
  by_cases c1 : (j : Int) < (z.ty.length : Int)
  · rw [if_pos (decide_eq_true c1)]
    by_cases c2 : (j : Int) < 100
    · rw [if_pos (decide_eq_true c2), if_pos (by omega), Int.toNat_natCast]
      have hj' : j < z.ty.length := by omega
      refine asT3 hj' ?_
      rw [S_size]
      by_cases c3 : (((z.ty[j]).2.2).length : Int) > 100
      · rw [if_pos (decide_eq_true c3)]; exact h2
      · rw [if_neg (by simpa using c3)]
        have e1 : w64 ((j : Int) + 1) = ((j + 1 : Nat) : Int) := by rw [w64_in (by omega) (by omega)]; omega
        rw [e1]
        refine hk _ ⟨j + 1, by omega, by omega, rfl, fun i hi hij => ?_⟩ ?_
        · by_cases ei : i = j
          · subst ei; omega
          · exact hall i hi (by omega)
        · show 101 - ((j + 1 : Nat) : Int).toNat < 101 - ((j : Nat) : Int).toNat
          omega
    · rw [if_neg (by simpa using c2)]
      exact fin fun i hi h100 => hall i hi (by omega)
  · rw [if_neg (by simpa using c1)]
    exact fin fun i hi h100 => hall i hi (by omega)
end Go.Proofs.YtenaflbcnkalbaaGreatDoor
end
section
set_option linter.unusedVariables false
set_option linter.unusedSimpArgs false
namespace Go.Proofs.YtenaflbcnkalbaaGreatDoor
open Go Go.Proofs.YtenaflbcnkalbaaGreatDoor.Eng Go.Proofs.YtenaflbcnkalbaaGreatDoor.Pl
set_option linter.unusedVariables false
set_option linter.unusedSimpArgs false
set_option maxRecDepth 100000
set_option maxHeartbeats 2000000
theorem cT (a : List Ty) (hl : a.length ≤ 100000) {K : List V → Bool → Bool → Prop} (h : ∀ f, (f = true → a = []) → K (TV a) true f) : Xslices_Clone___api_Type_api_Type_ (TV a) K := by
  unfold Xslices_Clone___api_Type_api_Type_ Yslices_Clone___api_Type_api_Type_
  rw [TV_len, List.nil_append, Nat.zero_add]
  by_cases e : a.length = 0
  · have e0 : a = [] := List.length_eq_zero_iff.1 e
    rw [if_pos e, if_pos (room32 _ (by omega))]
    subst e0
    exact ⟨h true fun _ => rfl, h false fun _ => rfl⟩
  · rw [if_neg e, if_pos (room32 _ (by omega))]
    exact h false fun hh => by cases hh
theorem cR1 (a : List Rec) (hl : a.length ≤ 100000) {K : List V → Bool → Bool → Prop} (h : ∀ f, (f = true → a = []) → K (RV a) true f) : Xslices_Clone___api_Trans_api_Trans_ (RV a) K := by
  unfold Xslices_Clone___api_Trans_api_Trans_ Yslices_Clone___api_Trans_api_Trans_
  rw [RV_len, List.nil_append, Nat.zero_add]
  by_cases e : a.length = 0
  · have e0 : a = [] := List.length_eq_zero_iff.1 e
    rw [if_pos e, if_pos (room16 _ (by omega))]
    subst e0
    exact ⟨h true fun _ => rfl, h false fun _ => rfl⟩
  · rw [if_neg e, if_pos (room16 _ (by omega))]
    exact h false fun hh => by cases hh
theorem cR2 (a : List Rec) (hl : a.length ≤ 100000) {K : List V → Bool → Bool → Prop} (h : ∀ f, (f = true → a = []) → K (RV a) true f) : Xslices_Clone___api_Corr_api_Corr_ (RV a) K := by
  unfold Xslices_Clone___api_Corr_api_Corr_ Yslices_Clone___api_Corr_api_Corr_
  rw [RV_len, List.nil_append, Nat.zero_add]
  by_cases e : a.length = 0
  · have e0 : a = [] := List.length_eq_zero_iff.1 e
    rw [if_pos e, if_pos (room16 _ (by omega))]
    subst e0
    exact ⟨h true fun _ => rfl, h false fun _ => rfl⟩
  · rw [if_neg e, if_pos (room16 _ (by omega))]
    exact h false fun hh => by cases hh
theorem zCopy (z : Zn) (hz : ZI z) {K : Unit × Unit × Unit × ByteArray × Int × Unit → List V → Bool → Bool → List V → Bool → Bool → List V → Bool → Bool → Prop}
    (h : ∀ f g i, (g = true → z.tr = []) → K ((), (), (), S z.ft, z.v, ()) (TV z.ty) true f (RV z.tr) true g (RV z.lp) true i) : Xzone_Copy (tupZ z) K := by
  show Xzone_Copy (TV z.ty, RV z.tr, RV z.lp, S z.ft, z.v, ()) K
  unfold Xzone_Copy Yzone_Copy
  refine cT z.ty (by have := hz.ty; omega) fun f _ => ?_
  refine cR1 z.tr (by have := hz.tr; omega) fun g hg => ?_
  refine cR2 z.lp (by have := hz.lp; omega) fun i _ => ?_
  exact h f g i hg
end Go.Proofs.YtenaflbcnkalbaaGreatDoor
end
section
set_option linter.unusedVariables false
set_option linter.unusedSimpArgs false
namespace Go.Proofs.YtenaflbcnkalbaaGreatDoor
open Go Go.Proofs.YtenaflbcnkalbaaGreatDoor.Eng Go.Proofs.YtenaflbcnkalbaaGreatDoor.Pl
set_option linter.unusedVariables false
set_option linter.unusedSimpArgs false
set_option maxRecDepth 100000
set_option maxHeartbeats 2000000
theorem sRecCheck (l : List Rec) (hi : recI l) (hlen : l.length ≤ 100000) {K : Int → Int → Prop} (h : ∀ n, K n (recE l)) : Xrecord_Check (RV l) K := by
  unfold Xrecord_Check Yrecord_Check
  rw [RV_len]
  refine lp_ind (fun x => (l.length : Nat) - x.1.2.2.2.2.2.2.1.toNat) (fun x => ∃ (j : Nat) (b : Rec), j ≤ l.length ∧ x = ((RV l, (0 : Int), (0 : Int), (), RV l, (l.length : Int), (j : Int), ()), (b.1, b.2, ()), ()) ∧ recErr j b (l.drop j) = recE l ∧ (0 < j → 0 ≤ b.1) ∧ i64r b.1 ∧ i64r b.2) ?_ ⟨0, (-2419199, 0), by omega, rfl, rfl, by omega, by unfold i64r; decide, by unfold i64r; decide⟩
  rintro x ⟨j, b, hj, rfl, hok, hb0, hb1, hb2⟩ k hk
  unfold Lrecord_Check_0
  simp only [decide_eq_true_eq, RV_len]
  by_cases e : j = l.length
  · rw [if_neg (by omega)]
    have : recE l = 0 := by rw [← hok, e, List.drop_length]; rfl
    rw [this] at h
    exact h _
  · have hj' : j < l.length := by omega
    obtain ⟨hc1, hc2⟩ := hi l[j] (List.getElem_mem hj')
    rw [Int.toNat_natCast, if_pos (by omega), if_pos (by omega)]
    refine asR1 hj' (asR2 hj' ?_)
    have hd : l.drop j = l[j] :: l.drop (j + 1) := List.drop_eq_getElem_cons hj'
    rw [hd, recErr] at hok
    have hre : (l.drop (j + 1)).isEmpty = decide (j + 1 = l.length) := by
      rw [Bool.eq_iff_iff, List.isEmpty_iff, List.drop_eq_nil_iff, decide_eq_true_eq]; omega
    have hre' : ∀ s : Int, ((decide (s = 0) && (l.drop (j + 1)).isEmpty) = true) ↔ (s = 0 ∧ j + 1 = l.length) := fun s => by
      rw [hre, Bool.and_eq_true, decide_eq_true_eq, decide_eq_true_eq]
    have hre'' : ∀ s : Int, ((decide (s = 0) && (l.drop (j + 1)).isEmpty) = false) ↔ ¬ (s = 0 ∧ j + 1 = l.length) := fun s => by
      rw [← hre' s, Bool.not_eq_true]
    simp only [hre', hre''] at hok
    generalize l[j] = c at *
    have e1 : w64 ((j : Int) + 1) = ((j + 1 : Nat) : Int) := by rw [w64_in (by omega) (by omega)]; omega
    have e2 : w64 ((l.length : Int) - 1) = (l.length : Int) - 1 := w64_in (by omega) (by omega)
    have c8 : 200 < j → K (j : Int) 8 := fun q => by rw [if_pos q] at hok; rw [← hok] at h; exact h _
    have c9 : ¬ 200 < j ∧ c.1 < 0 → K (j : Int) 9 := fun q => by rw [if_neg q.1, if_pos q.2] at hok; rw [← hok] at h; exact h _
    have c6 : ¬ 200 < j ∧ ¬ c.1 < 0 ∧ ¬ (c.2 - b.2 = 0 ∧ j + 1 = l.length) ∧ c.2 - b.2 ≠ 1 ∧ c.2 - b.2 ≠ -1 → K (j : Int) 6 := fun q => by
      rw [if_neg q.1, if_neg q.2.1, if_pos q.2.2] at hok; rw [← hok] at h; exact h _
    have c7 : ¬ 200 < j ∧ ¬ c.1 < 0 ∧ ((c.2 - b.2 = 0 ∧ j + 1 = l.length) ∨ c.2 - b.2 = 1 ∨ c.2 - b.2 = -1) ∧ 0 < j ∧ (((c.2 - b.2 = 0 ∧ j + 1 = l.length) ∧ c.1 - b.1 < 0) ∨ (¬ (c.2 - b.2 = 0 ∧ j + 1 = l.length) ∧ c.1 - b.1 < 2419199)) → K (j : Int) 7 := fun q => by
      obtain ⟨q1, q2, q3, q4, q5⟩ := q
      rw [if_neg q1, if_neg q2, if_neg (by omega), if_pos] at hok
      · rw [← hok] at h; exact h _
      · refine ⟨q4, ?_⟩
        rcases q5 with q5 | q5
        · rw [if_pos q5.1]; exact q5.2
        · rw [if_neg q5.1]; exact q5.2
    have good : (j ≤ 200 ∧ 0 ≤ c.1 ∧ ((c.2 - b.2 = 0 ∧ j + 1 = l.length) ∨ c.2 - b.2 = 1 ∨ c.2 - b.2 = -1) ∧ (j = 0 ∨ ((c.2 - b.2 = 0 ∧ j + 1 = l.length) ∧ c.1 - b.1 ≥ 0) ∨ (¬ (c.2 - b.2 = 0 ∧ j + 1 = l.length) ∧ c.1 - b.1 ≥ 2419199))) →
        k ((RV l, (0 : Int), (0 : Int), (), RV l, (l.length : Int), ((j + 1 : Nat) : Int), ()), (c.1, c.2, ()), ()) := fun hg => by
      obtain ⟨q1, q2, q3, q4⟩ := hg
      rw [if_neg (by omega), if_neg (by omega), if_neg (by omega), if_neg] at hok
      · refine hk _ ⟨j + 1, c, by omega, rfl, hok, fun _ => q2, hc1, hc2⟩ ?_
        show l.length - ((j + 1 : Nat) : Int).toNat < l.length - ((j : Nat) : Int).toNat
        omega
      · rintro ⟨r1, r2⟩
        rcases q4 with q4 | q4 | q4
        · omega
        · rw [if_pos q4.1] at r2; omega
        · rw [if_neg q4.1] at r2; omega
    clear hok hk h hd hre hre' hre''
    rw [e1, e2]
    have ew : 0 < j → 0 ≤ c.1 → w64 (c.1 - b.1) = c.1 - b.1 := fun h1 h2 => by
      have := hb0 h1
      unfold i64r at *
      exact w64_in (by omega) (by omega)
    refine ssub c.2 b.2 hc2 hb2 (fun hf => ?_) fun hf => ?_
    · generalize c.2 - b.2 = s at *
      simp only [if_true, beq_iff_eq, Bool.not_eq_true', beq_eq_false_iff_ne, ne_eq, bne_iff_ne, not_true, if_false, Bool.not_true, Bool.false_eq_true]
      repeat' split
      all_goals first
        | (refine c8 ?_; omega)
        | (refine c9 ?_; omega)
        | (refine c6 ?_; omega)
        | (refine c7 ?_; omega)
        | (refine good ?_; omega)
        | (refine c7 ?_; rw [ew (by omega) (by omega)] at *; omega)
        | (refine good ?_; rw [ew (by omega) (by omega)] at *; omega)
    · simp only [if_true, if_false, Bool.not_false, Bool.false_eq_true]
      unfold i64r at hf
      repeat' split
      all_goals first
        | (refine c8 ?_; omega)
        | (refine c9 ?_; omega)
        | (refine c6 ?_; omega)
end Go.Proofs.YtenaflbcnkalbaaGreatDoor
end
section
set_option linter.unusedVariables false
set_option linter.unusedSimpArgs false
namespace Go.Proofs.YtenaflbcnkalbaaGreatDoor
open Go Go.Proofs.YtenaflbcnkalbaaGreatDoor.Eng Go.Proofs.YtenaflbcnkalbaaGreatDoor.Pl
set_option linter.unusedVariables false
set_option linter.unusedSimpArgs false
set_option maxRecDepth 100000
set_option maxHeartbeats 2000000
theorem kEnd (n : Int) {K} (h : K (endD n)) : Xday_End n K := by
  unfold Xday_End Yday_End
  refine sday n ?_
  unfold endD at h
  by_cases e : -719162 ≤ n ∧ n ≤ 2932896
  · rw [if_pos e]
    rw [decide_eq_true e, Bool.true_and] at h
    refine slast _ _ ?_
    obtain ⟨⟨v1, v2, v3, v4, _⟩, _⟩ := num_date e.1 e.2
    rw [if_pos rfl, if_pos ⟨v1, v2, v3, v4⟩]; exact h
  · rw [if_neg e]
    rw [decide_eq_false e, Bool.false_and] at h
    refine slast _ _ ?_
    rw [if_neg (by simp)]; exact h
theorem kWrong (k : Nat) (l : LR) (ahead : Int) {K} (h : K (wrongL k l ahead)) : Xleap_wrong (k : Int) (l.1, l.2.1, l.2.2, ()) ahead K := by
  unfold Xleap_wrong Yleap_wrong
  unfold wrongL at h
  dsimp only
  simp only [decide_eq_true_eq, bne_iff_ne, ne_eq]
  by_cases h1 : 200 ≤ k
  · rw [if_pos h1] at h; rw [if_pos (by omega)]; exact h
  rw [if_neg h1] at h; rw [if_neg (by omega)]
  have rest : ¬ (l.1 < 730 ∨ 2932896 ≤ l.1) → Xday_End l.1 (fun r => if (!r) = true then K 5 else if ¬ l.2.1 = 1 then (if ¬ l.2.1 = -1 then K 6 else if l.1 ≤ ahead then K 4 else K 0) else if l.1 ≤ ahead then K 4 else K 0) := fun h2 => by
    rw [if_neg h2] at h
    refine kEnd _ ?_
    cases he : endD l.1
    · rw [if_pos he] at h; exact h
    · rw [if_neg (by simp [he])] at h
      rw [if_neg (by simp)]
      by_cases s1 : l.2.1 = 1
      · rw [if_neg (by omega)] at h; rw [if_neg (by omega)]
        by_cases h4 : l.1 ≤ ahead
        · rw [if_pos h4] at h; rw [if_pos h4]; exact h
        · rw [if_neg h4] at h; rw [if_neg h4]; exact h
      · rw [if_pos s1]
        by_cases s2 : l.2.1 = -1
        · rw [if_neg (by omega)] at h; rw [if_neg (by omega)]
          by_cases h4 : l.1 ≤ ahead
          · rw [if_pos h4] at h; rw [if_pos h4]; exact h
          · rw [if_neg h4] at h; rw [if_neg h4]; exact h
        · rw [if_pos ⟨s1, s2⟩] at h; rw [if_pos s2]; exact h
  by_cases h2 : l.1 < 730
  · rw [if_pos (.inl h2)] at h
    rw [if_pos h2, if_pos h2]; exact h
  rw [if_neg h2]
  by_cases h3 : l.1 ≥ 2932896
  · rw [if_pos (.inr h3)] at h
    rw [if_pos h3]; exact h
  rw [if_neg h3]
  exact rest (by omega)
theorem kCheck (t : Tb) (hl : t.ls.length ≤ 1000000) {K} (h : K ((checkT t).1 : Int) (checkT t).2) : Xleap_Check (TLV t.ls, t.has, t.ex, ()) K := by
  unfold Xleap_Check Yleap_Check
  rw [TLV_len]
  unfold checkT at h
  refine lp_ind (fun x => t.ls.length - x.1.2.2.2.2.2.2.1.toNat) (fun x => ∃ (j : Nat) (a : Int), j ≤ t.ls.length ∧ 729 ≤ a ∧ a ≤ 2932896 ∧ checkG j a (t.ls.drop j) = checkG 0 729 t.ls ∧
    x = (((), 0, 0, a, TLV t.ls, (t.ls.length : Int), (j : Int), ()), (TLV t.ls, t.has, t.ex, ()), ())) ?_ ⟨0, 729, by omega, by omega, by omega, rfl, rfl⟩
  rintro x ⟨j, a, hj, ha, ha', hc, rfl⟩ k hk
  unfold Lleap_Check_0
  dsimp only
  rw [TLV_len, Int.toNat_natCast]
  by_cases e : j < t.ls.length
  · rw [if_pos (decide_eq_true (by omega)), if_pos (by omega)]
    refine asL1 e (asL2 e (asL3 e ?_))
    refine kWrong j (t.ls[j]) a ?_
    rw [List.drop_eq_getElem_cons e, checkG] at hc
    by_cases hw : wrongL j t.ls[j] a = 0
    · rw [if_neg (by simp [hw])]
      rw [if_neg (by simp [hw])] at hc
      obtain ⟨_, q1, q2, _⟩ := wrongL_0 hw
      have w1 : w64 ((j : Int) + 1) = ((j + 1 : Nat) : Int) := by rw [w64_in (by omega) (by omega)]; omega
      rw [w1]
      exact hk _ ⟨j + 1, _, e, by omega, by omega, hc, rfl⟩ (by show t.ls.length - Int.toNat ((j + 1 : Nat) : Int) < t.ls.length - Int.toNat (j : Int); omega)
    · rw [if_pos (by simpa using hw)]
      rw [if_pos hw] at hc
      rw [← hc, if_pos hw] at h
      exact h
  · rw [if_neg (dneg (by omega))]
    have : j = t.ls.length := by omega
    subst this
    rw [List.drop_length, checkG] at hc
    rw [← hc, if_neg (by simp)] at h
    unfold expB at h
    simp only [lt]
    have w1 : w64 (w64 (a + 1) * 86400) = (a + 1) * 86400 := by rw [w64_in (n := a + 1) (by omega) (by omega), w64_in (by omega) (by omega)]
    rw [w1]
    cases hh : t.has
    · rw [hh] at h
      rw [if_neg (by simp)]
      rw [if_neg (by simp)] at h
      by_cases h1 : t.ex < 0
      · rw [if_pos (decide_eq_true h1)]
        rw [if_pos (by omega)] at h; exact h
      rw [if_neg (dneg h1)]
      by_cases h2 : t.ex > 0
      · rw [if_pos (decide_eq_true h2)]
        rw [if_pos (by omega)] at h; exact h
      rw [if_neg (dneg h2)]
      rw [if_neg (by omega)] at h; exact h
    · rw [hh, if_pos rfl] at h
      rw [if_pos rfl]
      generalize (if 63072000 > (a + 1) * 86400 then 63072000 else (a + 1) * 86400) = M at *
      by_cases h1 : t.ex < M
      · rw [if_pos (decide_eq_true h1)]
        rw [if_pos (.inl h1)] at h; exact h
      rw [if_neg (dneg h1)]
      by_cases h2 : t.ex > 253402300799
      · rw [if_pos (decide_eq_true h2)]
        rw [if_pos (.inr h2)] at h; exact h
      rw [if_neg (dneg h2)]
      rw [if_neg (by omega)] at h; exact h
theorem kRightT (t : Tb) (hl : t.ls.length ≤ 1000000) {K} (h : K (rightT t)) : Xleap_Right (TLV t.ls, t.has, t.ex, ()) K := by
  unfold Xleap_Right Yleap_Right
  exact kCheck t hl h
end Go.Proofs.YtenaflbcnkalbaaGreatDoor
end
section
set_option linter.unusedVariables false
set_option linter.unusedSimpArgs false
namespace Go.Proofs.YtenaflbcnkalbaaGreatDoor
open Go Go.Proofs.YtenaflbcnkalbaaGreatDoor.Eng Go.Proofs.YtenaflbcnkalbaaGreatDoor.Pl
set_option linter.unusedVariables false
set_option linter.unusedSimpArgs false
set_option maxRecDepth 100000
set_option maxHeartbeats 2000000
structure ZG (z : Zn) : Prop where
  ri : recI z.lp
  ti : recI z.tr
  v : i64r z.v
  tl : z.ty.length ≤ 9223372036854775807
theorem ZG.zi {z : Zn} (h : ZG z) (hf : z.ty.length ≤ 100 ∧ z.tr.length ≤ 300 ∧ z.lp.length ≤ 300 ∧ z.ft.length ≤ 200 ∧ (∀ t ∈ z.ty, t.2.2.length ≤ 100)) : ZI z :=
  ⟨hf.1, hf.2.1, hf.2.2.1, hf.2.2.2.1, hf.2.2.2.2, h.ri, h.ti, h.v⟩
end Go.Proofs.YtenaflbcnkalbaaGreatDoor
end
section
set_option linter.unusedVariables false
set_option linter.unusedSimpArgs false
namespace Go.Proofs.YtenaflbcnkalbaaGreatDoor
open Go Go.Proofs.YtenaflbcnkalbaaGreatDoor.Eng Go.Proofs.YtenaflbcnkalbaaGreatDoor.Pl
set_option linter.unusedVariables false
set_option linter.unusedSimpArgs false
set_option maxRecDepth 100000
set_option maxHeartbeats 2000000
def prevR (b : Rec) (l : List Rec) (i : Nat) : Rec := if i = 0 then b else l.getD (i - 1) (0, 0)
theorem recOk_at : ∀ (l : List Rec) (k : Nat) (b : Rec), recOk k b l = true → ∀ (i : Nat) (h : i < l.length),
    ((l[i]).2 - (prevR b l i).2 = 0 ∧ i + 1 = l.length) ∨ (((l[i]).2 - (prevR b l i).2 = 1 ∨ (l[i]).2 - (prevR b l i).2 = -1) ∧ (k + i = 0 ∨ (l[i]).1 - (prevR b l i).1 ≥ 2419199))
  | [], k, b, h, i, hi => by simp at hi
  | c :: r, k, b, h, i, hi => by
    obtain ⟨⟨h1, h2, h3, h4⟩, h5⟩ := (recOk_cons k b c r).1 h
    cases i with
    | zero =>
      simp only [prevR, if_true, List.getElem_cons_zero, List.length_cons]
      by_cases e : c.2 - b.2 = 0 ∧ r = []
      · exact .inl ⟨e.1, by rw [e.2]; rfl⟩
      · refine .inr ⟨?_, ?_⟩
        · rcases h3 with h3 | h3
          · exact absurd h3 e
          · exact h3
        · rcases h4 with h4 | h4 | h4
          · exact .inl (by omega)
          · exact absurd h4.1 e
          · exact .inr h4.2
    | succ i =>
      have ih := recOk_at r (k + 1) c h5 i (by simpa using hi)
      have hp : prevR b (c :: r) (i + 1) = prevR c r i := by
        unfold prevR
        rw [if_neg (by omega)]
        cases i with
        | zero => rfl
        | succ i => rfl
      rw [hp]
      simp only [List.getElem_cons_succ, List.length_cons]
      rcases ih with ih | ih
      · exact .inl ⟨ih.1, by omega⟩
      · exact .inr ⟨ih.1, ih.2.imp (fun h => by omega) id⟩
/-- The sum behind so many records. -/
def sm (l : List Rec) (m : Nat) : Int := if m = 0 then 0 else (l.getD (m - 1) (0, 0)).2
theorem leaps_at {l : List Rec} (h : recRight l = true) (i : Nat) (hi : i < (leapsR l).length) :
    (sm (leapsR l) (i + 1) - sm (leapsR l) i = 1 ∨ sm (leapsR l) (i + 1) - sm (leapsR l) i = -1) ∧ 0 ≤ ((leapsR l)[i]).1 ∧ (∀ j (hj : j < (leapsR l).length), i < j → ((leapsR l)[i]).1 < ((leapsR l)[j]).1) := by
  have hl := leapsR_len l
  have hil : i < l.length := by rw [hl] at hi; split at hi <;> omega
  have get : ∀ j (hj : j < (leapsR l).length), (leapsR l)[j] = l[j]'(by rw [hl] at hj; split at hj <;> omega) := fun j hj => by
    unfold leapsR
    by_cases e : lastExp l = true
    · simp only [e, if_true, List.getElem_take]
    · simp only [e, if_false]; rfl
  have getd : ∀ j, j < (leapsR l).length → (leapsR l).getD j (0, 0) = l.getD j (0, 0) := fun j hj => by
    rw [getD_at _ _ _ hj, get j hj, getD_at l]
  have key : ∀ j (hj : j < (leapsR l).length), ((l[j]'(by rw [hl] at hj; split at hj <;> omega)).2 - (prevR (-2419199, 0) l j).2 = 1 ∨ (l[j]'(by rw [hl] at hj; split at hj <;> omega)).2 - (prevR (-2419199, 0) l j).2 = -1) ∧ (j = 0 ∨ (l[j]'(by rw [hl] at hj; split at hj <;> omega)).1 - (prevR (-2419199, 0) l j).1 ≥ 2419199) := fun j hj => by
    have hjl : j < l.length := by rw [hl] at hj; split at hj <;> omega
    rcases recOk_at l 0 (-2419199, 0) h j hjl with ⟨e1, e2⟩ | ⟨e1, e2⟩
    · exfalso
      have : lastExp l = true := by
        unfold lastExp
        unfold prevR at e1
        by_cases j0 : j = 0
        · rw [if_pos j0] at e1
          subst j0
          have g := getD_at l 0 (0, 0) hjl
          rw [g]
          simp only [Bool.or_eq_true, Bool.and_eq_true, decide_eq_true_eq, beq_iff_eq]
          exact .inl ⟨by omega, by simpa using e1⟩
        · rw [if_neg j0] at e1
          have g := getD_at l (l.length - 1) (0, 0) (by omega)
          have ej : l.length - 1 = j := by omega
          have ej2 : l.length - 2 = j - 1 := by omega
          simp only [Bool.or_eq_true, Bool.and_eq_true, decide_eq_true_eq, beq_iff_eq]
          refine .inr ⟨by omega, ?_⟩
          rw [ej, ej2, getD_at l j _ hjl]; omega
      rw [hl, if_pos this] at hj
      omega
    · exact ⟨e1, e2.imp (fun h => by omega) id⟩
  refine ⟨?_, ?_, ?_⟩
  · have := (key i hi).1
    unfold sm
    rw [if_neg (by omega), Nat.add_sub_cancel, getd i hi, getD_at l i _ hil]
    unfold prevR at this
    by_cases i0 : i = 0
    · rw [if_pos i0] at this ⊢; exact this
    · rw [if_neg i0] at this ⊢
      rw [getd (i - 1) (by omega)]; exact this
  · rw [get i hi]; exact ((recOk_all l 0 _ h).1 i hil).2
  · intro j hj hij
    have hjl : j < l.length := by rw [hl] at hj; split at hj <;> omega
    have := (key j hj).2
    have hs := srt_rec h i (j - 1) hil (by omega) (by omega)
    unfold prevR at this
    rw [if_neg (show ¬ j = 0 by omega), getD_at l (j - 1) _ (by omega)] at this
    rw [get i hi, get j hj]
    rcases this with h0 | h0
    · omega
    · omega
theorem sm_bd {l : List Rec} (h : recRight l = true) : ∀ m, m ≤ (leapsR l).length → -(m : Int) ≤ sm (leapsR l) m ∧ sm (leapsR l) m ≤ m
  | 0, _ => by simp [sm]
  | m + 1, hm => by
    have ih := sm_bd h m (by omega)
    have := (leaps_at h m (by omega)).1
    omega
theorem sumR_sm (l : List Rec) (a : Int) : sumR l a = sm (leapsR l) (Pl.fl (fun c : Rec => decide (c.1 > a)) (leapsR l)) := by
  have hle := fl_le (fun c : Rec => decide (c.1 > a)) (leapsR l)
  unfold sumR sm
  generalize Pl.fl (fun c : Rec => decide (c.1 > a)) (leapsR l) = m at *
  by_cases m0 : m = 0
  · subst m0; rfl
  · rw [if_neg m0]
    have : ((leapsR l).take m).getLast? = some ((leapsR l)[m - 1]'(by omega)) := by
      rw [List.getLast?_eq_getElem?, List.length_take, Nat.min_eq_left hle, List.getElem?_take, if_pos (by omega), List.getElem?_eq_getElem (by omega)]
    rw [this, getD_at _ _ _ (by omega)]
theorem sum_bd {z : Zn} (h : ZR z) (a : Int) : -300 ≤ sumR z.lp a ∧ sumR z.lp a ≤ 300 := by
  have hr := h.all.2.1
  have hl := h.lp
  rw [sumR_sm]
  have hle := fl_le (fun c : Rec => decide (c.1 > a)) (leapsR z.lp)
  have h2 := leapsR_len z.lp
  have := sm_bd hr _ hle
  split at h2 <;> omega
end Go.Proofs.YtenaflbcnkalbaaGreatDoor
end
section
set_option linter.unusedVariables false
set_option linter.unusedSimpArgs false
namespace Go.Proofs.YtenaflbcnkalbaaGreatDoor
open Go Go.Proofs.YtenaflbcnkalbaaGreatDoor.Eng Go.Proofs.YtenaflbcnkalbaaGreatDoor.Pl
set_option linter.unusedVariables false
set_option linter.unusedSimpArgs false
set_option maxRecDepth 100000
set_option maxHeartbeats 4000000
abbrev tupB (t : Tb) : List V × Bool × Int × Unit := (TLV t.ls, t.has, t.ex, ())
theorem sInst (z : Zn) (h : ZR z) (l : LR) (hd : 0 ≤ l.1 ∧ l.1 ≤ 3000000) {K : Int → Prop} (hk : K (instR z l)) : Xright_Instant (tupZ z) (l.1, l.2.1, l.2.2, ()) K := by
  unfold Xright_Instant Yright_Instant
  have w1 : w64 (w64 (l.1 + 1) * 86400) = midL l := by
    unfold midL; rw [w64_in (n := l.1 + 1) (by omega) (by omega), w64_in (by omega) (by omega)]
  have hm : 0 ≤ midL l ∧ midL l ≤ 300000000000 := by unfold midL; omega
  simp only [lt, w1]
  unfold instR at hk
  cases hr : l.2.2
  · rw [if_pos (by rfl)]
    rw [if_neg (by simp [hr])] at hk; exact hk
  · rw [if_neg (by simp)]
    rw [if_pos hr] at hk
    rw [w64_in (n := midL l - 1) (by omega) (by omega)]
    refine zLookup z h _ ?_
    have := right_off h.right (midL l - 1)
    show K (w64 (midL l - (lookZ z (midL l - 1)).1))
    rw [w64_in (by omega) (by omega)]; exact hk
theorem rec_snoc (l : List Rec) (a b : Int) : RV l ++ [V.agg [V.c (.int .i64 a), V.c (.int .i64 b)]] = RV (l ++ [(a, b)]) := by simp [RV, eRec]
theorem min0 (n : Int) : (if 0 < n then 0 else n) = min n 0 := by split <;> omega
theorem sRecords (z : Zn) (hz : ZR z) (t : Tb) (ht : rightT t = true) {K : Int → List V → Bool → Bool → Prop} (h : ∀ o f, K (recordsR z t).2 (RV (recordsR z t).1) o f) : Xright_Records (tupZ z) (tupB t) K := by
  unfold Xright_Records Yright_Records
  have hst := right_steps ht
  have hlen := right_len ht
  have hoff := right_off hz.right
  have inst : ∀ i (hi : i < t.ls.length), 0 < instR z t.ls[i] ∧ instR z t.ls[i] < 300000000000 := fun i hi => inst_pos hoff ht _ (List.getElem_mem hi)
  have sb := sumT_bd hst
  have st := stepT_of hst
  have fin : ∀ l, l = recAll z t → Xrecord_Check (RV l) (fun r11 r12 => if (r12 != 0) = true then K r12 [] true true else K 0 (RV l) true false) := fun l hl => by
    have hi : recI l := by
      intro c hc
      obtain ⟨i, hi, rfl⟩ := List.getElem_of_mem hc
      have hi2 : i < t.ls.length + if t.has = true then 1 else 0 := by rw [← recAll_len z t, ← hl]; exact hi
      have eg : l[i] = (recAll z t).getD i (0, 0) := by rw [← hl, List.getD, List.getElem?_eq_getElem hi]; rfl
      rw [eg]
      by_cases e : i < t.ls.length
      · rw [recAll_lt z t i e]
        have := inst i e
        have := sb i
        have := sb (i + 1)
        have := st i e
        unfold i64r
        exact ⟨⟨by dsimp only; omega, by dsimp only; omega⟩, by dsimp only; omega, by dsimp only; omega⟩
      · have hh : t.has = true := by
          cases hh : t.has
          · rw [hh] at hi2; simp at hi2; omega
          · rfl
        rw [hh, if_pos rfl] at hi2
        have ei : i = t.ls.length := by omega
        rw [ei, recAll_end z t hh]
        have := (right_ex ht).2 hh
        have := sb t.ls.length
        unfold i64r
        exact ⟨⟨by dsimp only; omega, by dsimp only; omega⟩, by dsimp only; omega, by dsimp only; omega⟩
    refine sRecCheck l hi (by rw [hl, recAll_len]; split <;> omega) fun n => ?_
    unfold recordsR at h
    rw [hl]
    by_cases e : recE (recAll z t) = 0
    · rw [if_pos e] at h
      rw [e, if_neg (by simp)]; exact h _ _
    · rw [if_neg e] at h
      rw [if_pos (by simpa using e)]; exact h _ _
  have rl : ∀ j, j ≤ t.ls.length → (recG z 0 (t.ls.take j)).length = j := fun j hj => by rw [recG_len]; simp; omega
  refine lp_at (fun j => (((), (), (), (0 : Int), (), sumT t.ls j, TLV t.ls, (t.ls.length : Int), (j : Int), ()), tupZ z, tupB t, RV (recG z 0 (t.ls.take j)), ())) t.ls.length (by rw [TLV_len]; rfl) fun j hj k hk => ?_
  unfold Lright_Records_0
  dsimp only
  have lj := rl j hj
  rw [TLV_len, RV_len, lj, Int.toNat_natCast]
  have rm : roomOk (j + 1) 16 = true := room16 _ (by omega)
  by_cases e : j < t.ls.length
  · rw [if_pos (decide_eq_true (by omega)), if_pos (by omega)]
    refine asL1 e (asL2 e (asL3 e ?_))
    have hd := right_rng ht _ (List.getElem_mem e)
    refine sInst z hz t.ls[j] (by omega) ?_
    have := inst j e
    have b1 := sb j
    have b2 := sb (j + 1)
    have s1 := sumT_succ e
    have s2 := st j e
    have s3 : Pl.stepT t.ls j = (t.ls[j]).2.1 := by unfold Pl.stepT; rw [List.getD, List.getElem?_eq_getElem e]; rfl
    have w1 : w64 ((j : Int) + 1) = ((j + 1 : Nat) : Int) := by rw [w64_in (by omega) (by omega)]; omega
    have w2 : w64 (sumT t.ls j + (t.ls[j]).2.1) = sumT t.ls (j + 1) := by rw [w64_in (by omega) (by omega)]; omega
    have w3 : w64 (w64 (instR z t.ls[j] + sumT t.ls j) + (if 0 < (t.ls[j]).2.1 then 0 else (t.ls[j]).2.1)) = instR z t.ls[j] + sumT t.ls j + min (t.ls[j]).2.1 0 := by
      rw [min0, w64_in (n := instR z t.ls[j] + sumT t.ls j) (by omega) (by omega), w64_in (by omega) (by omega)]
    simp only [lt, w1, w2, w3, List.length_singleton]
    rw [if_pos rm, rec_snoc]
    have ng : recG z 0 (t.ls.take (j + 1)) = recG z 0 (t.ls.take j) ++ [(instR z t.ls[j] + sumT t.ls j + min (t.ls[j]).2.1 0, sumT t.ls (j + 1))] := by
      rw [← recG_take, ← recG_take, List.take_succ_eq_append_getElem (by rw [recG_len]; exact e), recG_get z t.ls 0 j e (by rw [recG_len]; exact e), s3]
      simp
    rw [← ng]
    exact hk e
  · have : j = t.ls.length := by omega
    subst this
    rw [if_neg (dneg (by omega))]
    rw [List.take_length]
    by_cases hh : t.has = true
    rotate_left
    · rw [if_neg hh]
      exact fin _ (by unfold recAll; rw [if_neg hh]; simp)
    · have x := (right_ex ht).2 hh
      have b1 := sb t.ls.length
      have w4 : w64 (t.ex + sumT t.ls t.ls.length) = t.ex + sumT t.ls t.ls.length := w64_in (by omega) (by omega)
      rw [if_pos hh]
      simp only [lt, w4, List.length_singleton]
      rw [if_pos rm, rec_snoc]
      refine fin _ ?_
      unfold recAll sumT
      rw [hh, if_pos rfl, List.take_length]
theorem sShift (z : Zn) (hz : ZR z) (t : Tb) (ht : rightT t = true) (p : Int) (hp : i64r p) {K : Int → Bool → Prop} (h : K (shiftR z t.ls p).1 (shiftR z t.ls p).2) : Xright_Shift (tupZ z) (tupB t) p K := by
  unfold Xright_Shift Yright_Shift
  have hst := right_steps ht
  have hlen := right_len ht
  refine lp_at (fun j => ((p, (), (0 : Int), false, shiftS z (t.ls.take j) p, TLV t.ls, (t.ls.length : Int), (j : Int), ()), tupZ z, ())) t.ls.length (by rw [TLV_len]; rfl) fun j hj k hk => ?_
  unfold Lright_Shift_0
  dsimp only
  rw [TLV_len, Int.toNat_natCast]
  have bd := shiftS_bd z p (t.ls.take j) fun l hl => hst l (List.mem_of_mem_take hl)
  have lt2 : (t.ls.take j).length ≤ t.ls.length := by simp; omega
  by_cases e : j < t.ls.length
  · rw [if_pos (decide_eq_true (by omega)), if_pos (by omega)]
    refine asL1 e (asL2 e (asL3 e ?_))
    have hd := right_rng ht _ (List.getElem_mem e)
    refine sInst z hz t.ls[j] (by omega) ?_
    have w1 : w64 ((j : Int) + 1) = ((j + 1 : Nat) : Int) := by rw [w64_in (by omega) (by omega)]; omega
    have := hk e
    rw [List.take_succ_eq_append_getElem e, shift_app, shiftS_cons] at this
    have s2 := hst _ (List.getElem_mem e)
    rw [w1]
    by_cases c : instR z t.ls[j] ≤ p
    · rw [if_pos (decide_eq_true c), w64_in (by omega) (by omega)]
      rw [if_pos c] at this
      simpa [shiftS] using this
    · rw [if_neg (dneg c)]
      rw [if_neg c] at this
      simpa [shiftS] using this
  · have : j = t.ls.length := by omega
    subst this
    rw [if_neg (dneg (by omega))]
    rw [List.take_length] at bd ⊢
    refine sadd _ _ hp ⟨by omega, by omega⟩ ?_
    unfold shiftR at h
    by_cases q : inI (p + shiftS z t.ls p)
    · rw [if_pos q] at h
      rw [if_pos (show -9223372036854775808 ≤ p + shiftS z t.ls p ∧ p + shiftS z t.ls p ≤ 9223372036854775807 from q)]; exact h
    · rw [if_neg q] at h
      rw [if_neg (show ¬ (-9223372036854775808 ≤ p + shiftS z t.ls p ∧ p + shiftS z t.ls p ≤ 9223372036854775807) from q)]; exact h
theorem RV_set (l : List Rec) (i : Nat) (h : i < l.length) (x : Int) : List.set (RV l) i (setE (List.getD (RV l) i V.bad) 0 [V.c (.int .i64 x)]) = RV (l.set i (x, (l[i]).2)) := by
  have : List.getD (RV l) i V.bad = eRec l[i] := by simp [RV, List.getD, h]
  rw [this]
  show List.set (RV l) i (eRec (x, (l[i]).2)) = _
  simp [RV, List.map_set]
/-- Changes, the first ones moved. -/
def mixR (f : Int → Int) (l : List Rec) (j : Nat) : List Rec := (l.take j).map (fun c => (f c.1, c.2)) ++ l.drop j
theorem mix_len (f : Int → Int) (l : List Rec) (j : Nat) (h : j ≤ l.length) : (mixR f l j).length = l.length := by simp [mixR]; omega
theorem mix_get (f : Int → Int) (l : List Rec) (j : Nat) (h : j < l.length) (h' : j < (mixR f l j).length) : (mixR f l j)[j] = l[j] := by
  have : (mixR f l j)[j]? = l[j]? := by
    unfold mixR
    rw [List.getElem?_append_right (by simp; omega)]
    simp [Nat.min_eq_left (Nat.le_of_lt h)]
  rw [List.getElem?_eq_getElem h', List.getElem?_eq_getElem h] at this
  exact Option.some.inj this
theorem mix_succ (f : Int → Int) (l : List Rec) (j : Nat) (h : j < l.length) : (mixR f l j).set j (f (l[j]).1, (l[j]).2) = mixR f l (j + 1) := by
  unfold mixR
  rw [List.drop_eq_getElem_cons h]
  have hl : ((l.take j).map (fun c => (f c.1, c.2))).length = j := by simp; omega
  have := set_mid ((l.take j).map (fun c => (f c.1, c.2))) (f (l[j]).1, (l[j]).2) l[j] (l.drop (j + 1))
  rw [hl] at this
  rw [this, List.take_succ_eq_append_getElem h, List.map_append]
  simp
theorem mix_end (f : Int → Int) (l : List Rec) : mixR f l l.length = l.map fun c => (f c.1, c.2) := by simp [mixR]
theorem sSubR (z : Zn) (hz : ZR z) (a : Int) (ha : i64r a) {K : Int → Bool → Prop} (h : K (subR z a).1 (subR z a).2) : Xrecord_Sum (RV z.lp) a (fun r => Xnum_Sub a r K) := by
  have hs := sum_bd hz a
  refine sSum z.lp hz.sl (by have := hz.lp; omega) a ?_
  unfold subR at h
  refine ssub a _ ha ⟨by omega, by omega⟩ (fun q => ?_) fun q => ?_
  · rw [if_pos (show inI (a - sumR z.lp a) from q)] at h; exact h
  · rw [if_neg (show ¬ inI (a - sumR z.lp a) from q)] at h; exact h
theorem sMoved (z : Zn) (hz : ZR z) (t : Tb) (ht : rightT t = true) {K : _ → _ → _ → _ → _ → _ → _ → _ → _ → _ → _ → _ → _ → _ → _ → _ → _ → _ → _ → _ → _ → _ → _ → _ → _ → _ → _ → Prop}
    (hok : (movedR z (shiftR z t.ls)).2 = 0 → ∀ f g i, K ((), (), (), S (movedR z (shiftR z t.ls)).1.ft, (movedR z (shiftR z t.ls)).1.v, ()) 0 (S z.ft) z.v t.has t.ex (TV (movedR z (shiftR z t.ls)).1.ty) true f (RV (movedR z (shiftR z t.ls)).1.tr) true g (RV z.lp) true i (TV z.ty) false true (RV z.tr) false true (RV z.lp) false true (TLV t.ls) false true)
    (hno : (movedR z (shiftR z t.ls)).2 ≠ 0 → K ((), (), (), ByteArray.mk #[], 0, ()) (movedR z (shiftR z t.ls)).2 (S z.ft) z.v t.has t.ex [] true true [] true true [] true true (TV z.ty) false true (RV z.tr) false true (RV z.lp) false true (TLV t.ls) false true) :
    Xright_moved (tupZ z) (TV z.ty) (RV z.tr) (RV z.lp) (S z.ft) z.v (TLV t.ls) t.has t.ex K := by
  unfold Xright_moved Yright_moved
  refine zCopy z hz.toZI fun f g i hg => ?_
  have hg' : 0 < z.tr.length → g = false := fun h => by
    cases g
    · rfl
    · rw [hg rfl] at h; simp at h
  have hti := hz.ti
  have htr := hz.tr
  unfold movedR at hok hno
  dsimp only
  rw [RV_len]
  refine lp_ind (fun x => z.tr.length - x.1.2.2.2.2.2.2.1.toNat) (fun x => ∃ j : Nat, j ≤ z.tr.length ∧ (∀ c ∈ z.tr.take j, (shiftR z t.ls c.1).2 = true) ∧
    x = ((((), (), (), ()), (), (), (0 : Int), (), (z.tr.length : Int), (j : Int), ()), tupZ z, tupB t, ((), (), (), S z.ft, z.v, ()), ((), (), (), ByteArray.mk #[], 0, ()), (TV z.ty, true, f), (RV (mixR (fun a => (shiftR z t.ls a).1) z.tr j), true, g), (RV z.lp, true, i), ())) ?_ ⟨0, by omega, by simp, by simp [mixR]; rfl⟩
  rintro x ⟨j, hj, hall, rfl⟩ k hk
  unfold Lright_moved_0
  dsimp only
  have lm := mix_len (fun a => (shiftR z t.ls a).1) z.tr j hj
  rw [RV_len, lm, Int.toNat_natCast]
  by_cases e : j < z.tr.length
  · rw [if_pos (decide_eq_true (by omega)), if_pos (by omega)]
    have hm : j < (mixR (fun a => (shiftR z t.ls a).1) z.tr j).length := by omega
    refine asR1 hm (asR2 hm ?_)
    rw [mix_get _ _ _ e hm]
    have hin : i64r (z.tr[j]).1 := (hti _ (List.getElem_mem e)).1
    unfold Xright_Compile_1 Yright_Compile_1
    refine sShift z hz t ht _ hin ?_
    cases hs : (shiftR z t.ls (z.tr[j]).1).2
    · rw [if_pos (by rfl)]
      have hna : ¬ (z.tr.all (fun c => (shiftR z t.ls c.1).2) = true) := fun hh => by
        have := List.all_eq_true.1 hh _ (List.getElem_mem e)
        rw [hs] at this; cases this
      rw [if_neg hna] at hno
      exact hno (by decide)
    · rw [if_neg (by simp), if_pos (by omega), if_pos (hg' (by omega)), if_pos (by omega), RV_set _ _ hm, mix_get _ _ _ e hm, mix_succ (fun a => (shiftR z t.ls a).1) z.tr j e]
      have w1 : w64 ((j : Int) + 1) = ((j + 1 : Nat) : Int) := by rw [w64_in (by omega) (by omega)]; omega
      rw [w1]
      refine hk _ ⟨j + 1, e, fun c hc => ?_, rfl⟩ (by show z.tr.length - Int.toNat ((j + 1 : Nat) : Int) < z.tr.length - Int.toNat (j : Int); omega)
      rw [List.take_succ_eq_append_getElem e, List.mem_append, List.mem_singleton] at hc
      rcases hc with hc | rfl
      · exact hall c hc
      · exact hs
  · have : j = z.tr.length := by omega
    subst this
    rw [if_neg (dneg (by omega))]
    rw [List.take_length] at hall
    have ha : z.tr.all (fun c => (shiftR z t.ls c.1).2) = true := List.all_eq_true.2 hall
    rw [if_pos ha] at hok hno
    rw [mix_end]
    clear hk lm
    have lM : (z.tr.map fun c => ((shiftR z t.ls c.1).1, c.2)).length = z.tr.length := by simp
    generalize hM : (z.tr.map fun c => ((shiftR z t.ls c.1).1, c.2)) = M at *
    refine lp_ind (fun x => M.length - x.1.2.2.2.2.1.toNat) (fun x => ∃ j : Nat, j ≤ M.length ∧ (∀ q (h : q + 1 < M.length), q + 1 < j → (M[q]).1 < (M[q + 1]).1) ∧
      x = (((), (), (0 : Int), (M.length : Int), (j : Int), ()), tupZ z, tupB t, ((), (), (), S z.ft, z.v, ()), ((), (), (), ByteArray.mk #[], 0, ()), (TV z.ty, true, f), (RV M, true, g), (RV z.lp, true, i), ())) ?_ ⟨0, by omega, by omega, by rw [lM]; rfl⟩
    rintro x ⟨j, hj, hall2, rfl⟩ k hk
    unfold Lright_moved_1
    dsimp only
    rw [RV_len]
    have w1 : w64 ((j : Int) + 1) = ((j + 1 : Nat) : Int) := by rw [w64_in (by omega) (by omega)]; omega
    by_cases e : j < M.length
    · rw [if_pos (decide_eq_true (by omega))]
      by_cases e0 : j = 0
      · rw [if_neg (dneg (by omega)), w1]
        exact hk _ ⟨j + 1, e, fun q h1 h2 => by omega, rfl⟩ (by show M.length - Int.toNat ((j + 1 : Nat) : Int) < M.length - Int.toNat (j : Int); omega)
      · have w2 : w64 ((j : Int) - 1) = ((j - 1 : Nat) : Int) := by rw [w64_in (by omega) (by omega)]; omega
        rw [if_pos (decide_eq_true (by omega)), if_pos (by omega), w2, Int.toNat_natCast, Int.toNat_natCast]
        refine asR1 e ?_
        have e1 : j - 1 < M.length := by omega
        rw [if_pos (by omega)]
        refine asR1 e1 ?_
        by_cases c : (M[j]).1 ≤ (M[j - 1]).1
        · rw [if_pos (decide_eq_true c)]
          have hnr : ¬ (rising M = true) := fun hh => by
            have := rising_get M hh (j - 1) (by omega)
            simp only [show j - 1 + 1 = j by omega] at this; omega
          rw [if_neg hnr] at hno
          exact hno (by decide)
        · rw [if_neg (dneg c), w1]
          refine hk _ ⟨j + 1, e, fun q h1 h2 => ?_, rfl⟩ (by show M.length - Int.toNat ((j + 1 : Nat) : Int) < M.length - Int.toNat (j : Int); omega)
          rcases Nat.lt_or_ge (q + 1) j with h3 | h3
          · exact hall2 q h1 h3
          · have : q = j - 1 := by omega
            subst this
            simp only [show j - 1 + 1 = j by omega]; omega
    · rw [if_neg (dneg (by omega))]
      have hr : rising M = true := rising_of M fun q h => hall2 q h (by omega)
      rw [if_pos hr] at hok
      exact hok rfl f g i
theorem sMoved_1 (z : Zn) (hz : ZR z) {K : _ → _ → _ → _ → _ → _ → _ → _ → _ → _ → _ → _ → _ → _ → _ → _ → _ → _ → _ → _ → _ → _ → Prop}
    (hok : (movedR z (subR z)).2 = 0 → ∀ f g i, K ((), (), (), S (movedR z (subR z)).1.ft, (movedR z (subR z)).1.v, ()) 0 (S z.ft) z.v (TV (movedR z (subR z)).1.ty) true f (RV (movedR z (subR z)).1.tr) true g (RV z.lp) true i (TV z.ty) false true (RV z.tr) false true (RV z.lp) false true )
    (hno : (movedR z (subR z)).2 ≠ 0 → K ((), (), (), ByteArray.mk #[], 0, ()) (movedR z (subR z)).2 (S z.ft) z.v [] true true [] true true [] true true (TV z.ty) false true (RV z.tr) false true (RV z.lp) false true ) :
    Xright_moved_1 (tupZ z) (TV z.ty) (RV z.tr) (RV z.lp) (S z.ft) z.v K := by
  unfold Xright_moved_1 Yright_moved_1
  refine zCopy z hz.toZI fun f g i hg => ?_
  have hg' : 0 < z.tr.length → g = false := fun h => by
    cases g
    · rfl
    · rw [hg rfl] at h; simp at h
  have hti := hz.ti
  have htr := hz.tr
  unfold movedR at hok hno
  dsimp only
  rw [RV_len]
  refine lp_ind (fun x => z.tr.length - x.1.2.2.2.2.2.2.1.toNat) (fun x => ∃ j : Nat, j ≤ z.tr.length ∧ (∀ c ∈ z.tr.take j, (subR z c.1).2 = true) ∧
    x = ((((), (), ()), (), (), (0 : Int), (), (z.tr.length : Int), (j : Int), ()), tupZ z, ((), (), (), S z.ft, z.v, ()), ((), (), (), ByteArray.mk #[], 0, ()), (TV z.ty, true, f), (RV (mixR (fun a => (subR z a).1) z.tr j), true, g), (RV z.lp, true, i), ())) ?_ ⟨0, by omega, by simp, by simp [mixR]; rfl⟩
  rintro x ⟨j, hj, hall, rfl⟩ k hk
  unfold Lright_moved_1_0
  dsimp only
  have lm := mix_len (fun a => (subR z a).1) z.tr j hj
  rw [RV_len, lm, Int.toNat_natCast]
  by_cases e : j < z.tr.length
  · rw [if_pos (decide_eq_true (by omega)), if_pos (by omega)]
    have hm : j < (mixR (fun a => (subR z a).1) z.tr j).length := by omega
    refine asR1 hm (asR2 hm ?_)
    rw [mix_get _ _ _ e hm]
    have hin : i64r (z.tr[j]).1 := (hti _ (List.getElem_mem e)).1
    unfold Xright_Strip_1 Yright_Strip_1
    have hss := sum_bd hz (z.tr[j]).1
    refine sSubR z hz (z.tr[j]).1 hin ?_
    cases hs : (subR z (z.tr[j]).1).2
    · rw [if_pos (by rfl)]
      have hna : ¬ (z.tr.all (fun c => (subR z c.1).2) = true) := fun hh => by
        have := List.all_eq_true.1 hh _ (List.getElem_mem e)
        rw [hs] at this; cases this
      rw [if_neg hna] at hno
      exact hno (by decide)
    · rw [if_neg (by simp), if_pos (by omega), if_pos (hg' (by omega)), if_pos (by omega), RV_set _ _ hm, mix_get _ _ _ e hm, mix_succ (fun a => (subR z a).1) z.tr j e]
      have w1 : w64 ((j : Int) + 1) = ((j + 1 : Nat) : Int) := by rw [w64_in (by omega) (by omega)]; omega
      rw [w1]
      refine hk _ ⟨j + 1, e, fun c hc => ?_, rfl⟩ (by show z.tr.length - Int.toNat ((j + 1 : Nat) : Int) < z.tr.length - Int.toNat (j : Int); omega)
      rw [List.take_succ_eq_append_getElem e, List.mem_append, List.mem_singleton] at hc
      rcases hc with hc | rfl
      · exact hall c hc
      · exact hs
  · have : j = z.tr.length := by omega
    subst this
    rw [if_neg (dneg (by omega))]
    rw [List.take_length] at hall
    have ha : z.tr.all (fun c => (subR z c.1).2) = true := List.all_eq_true.2 hall
    rw [if_pos ha] at hok hno
    rw [mix_end]
    clear hk lm
    have lM : (z.tr.map fun c => ((subR z c.1).1, c.2)).length = z.tr.length := by simp
    generalize hM : (z.tr.map fun c => ((subR z c.1).1, c.2)) = M at *
    refine lp_ind (fun x => M.length - x.1.2.2.2.2.1.toNat) (fun x => ∃ j : Nat, j ≤ M.length ∧ (∀ q (h : q + 1 < M.length), q + 1 < j → (M[q]).1 < (M[q + 1]).1) ∧
      x = (((), (), (0 : Int), (M.length : Int), (j : Int), ()), tupZ z, ((), (), (), S z.ft, z.v, ()), ((), (), (), ByteArray.mk #[], 0, ()), (TV z.ty, true, f), (RV M, true, g), (RV z.lp, true, i), ())) ?_ ⟨0, by omega, by omega, by rw [lM]; rfl⟩
    rintro x ⟨j, hj, hall2, rfl⟩ k hk
    unfold Lright_moved_1_1
    dsimp only
    rw [RV_len]
    have w1 : w64 ((j : Int) + 1) = ((j + 1 : Nat) : Int) := by rw [w64_in (by omega) (by omega)]; omega
    by_cases e : j < M.length
    · rw [if_pos (decide_eq_true (by omega))]
      by_cases e0 : j = 0
      · rw [if_neg (dneg (by omega)), w1]
        exact hk _ ⟨j + 1, e, fun q h1 h2 => by omega, rfl⟩ (by show M.length - Int.toNat ((j + 1 : Nat) : Int) < M.length - Int.toNat (j : Int); omega)
      · have w2 : w64 ((j : Int) - 1) = ((j - 1 : Nat) : Int) := by rw [w64_in (by omega) (by omega)]; omega
        rw [if_pos (decide_eq_true (by omega)), if_pos (by omega), w2, Int.toNat_natCast, Int.toNat_natCast]
        refine asR1 e ?_
        have e1 : j - 1 < M.length := by omega
        rw [if_pos (by omega)]
        refine asR1 e1 ?_
        by_cases c : (M[j]).1 ≤ (M[j - 1]).1
        · rw [if_pos (decide_eq_true c)]
          have hnr : ¬ (rising M = true) := fun hh => by
            have := rising_get M hh (j - 1) (by omega)
            simp only [show j - 1 + 1 = j by omega] at this; omega
          rw [if_neg hnr] at hno
          exact hno (by decide)
        · rw [if_neg (dneg c), w1]
          refine hk _ ⟨j + 1, e, fun q h1 h2 => ?_, rfl⟩ (by show M.length - Int.toNat ((j + 1 : Nat) : Int) < M.length - Int.toNat (j : Int); omega)
          rcases Nat.lt_or_ge (q + 1) j with h3 | h3
          · exact hall2 q h1 h3
          · have : q = j - 1 := by omega
            subst this
            simp only [show j - 1 + 1 = j by omega]; omega
    · rw [if_neg (dneg (by omega))]
      have hr : rising M = true := rising_of M fun q h => hall2 q h (by omega)
      rw [if_pos hr] at hok
      exact hok rfl f g i
theorem sCompile (z : Zn) (hz : ZI z) (t : Tb) (hl : t.ls.length ≤ 1000) {K : _ → _ → _ → _ → _ → _ → _ → _ → _ → _ → _ → Prop}
    (h : ∀ a b c d e f, K ((), (), (), S (compileR z t).1.ft, (compileR z t).1.v, ()) (compileR z t).2 (TV (compileR z t).1.ty) a b (RV (compileR z t).1.tr) c d (RV (compileR z t).1.lp) e f) : Xright_Compile (tupZ z) (tupB t) K := by
  unfold Xright_Compile Yright_Compile Xright_plain Yright_plain
  dsimp only
  have hlp : ((((tupZ z).2.2.1.length : Nat) : Int) == 0) = true ↔ z.lp = [] := by
    show (((RV z.lp).length : Int) == 0) = true ↔ _
    rw [RV_len, beq_iff_eq, ← List.length_eq_zero_iff]; omega
  unfold compileR at h
  have bad : ¬ ((z.lp = [] ∧ zoneRight z = true) ∧ rightT t = true) → K ((), (), (), ByteArray.mk #[], 0, ()) 1 [] true true [] true true [] true true := fun hn => by
    rw [if_pos hn] at h; exact h _ _ _ _ _ _
  by_cases e0 : z.lp = []
  · rw [if_pos (hlp.2 e0)]
    refine sRight z hz ?_
    cases hr : zoneRight z
    · rw [if_pos (by rfl)]; exact bad (by simp [hr])
    rw [if_neg (by simp)]
    refine kRightT t (by omega) ?_
    cases ht : rightT t
    · rw [if_pos (by rfl)]; exact bad (by simp [ht])
    rw [if_neg (by simp)]
    have hzr : ZR z := ⟨hz, hr⟩
    rw [if_neg (fun hh => hh ⟨⟨e0, hr⟩, ht⟩)] at h
    refine sRecords z hzr t ht fun o f => ?_
    by_cases e1 : (recordsR z t).2 = 0
    · rw [if_neg (by simp [e1])]
      rw [if_neg (by simp [e1])] at h
      refine sMoved z hzr t ht (fun q f' g i => ?_) fun q => ?_
      · rw [if_neg (by simp)]
        rw [if_neg (by simp [q])] at h
        cases hh : t.has
        · rw [if_neg (by simp)]
          rw [hh, if_neg (by simp)] at h
          exact h _ _ _ _ _ _
        · rw [if_pos rfl]
          rw [hh, if_pos rfl] at h
          exact h _ _ _ _ _ _
      · rw [if_pos (by simpa using q)]
        rw [if_pos q] at h
        exact h _ _ _ _ _ _
    · rw [if_pos (by simpa using e1)]
      rw [if_pos e1] at h
      exact h _ _ _ _ _ _
  · rw [if_neg (fun hh => e0 (hlp.1 hh)), if_pos (by rfl)]
    exact bad (by simp [e0])
theorem sStrip (z : Zn) (hz : ZI z) {K : _ → _ → _ → _ → _ → _ → _ → _ → _ → _ → _ → Prop}
    (h : ∀ a b c d e f, K ((), (), (), S (stripR z).1.ft, (stripR z).1.v, ()) (stripR z).2 (TV (stripR z).1.ty) a b (RV (stripR z).1.tr) c d (RV (stripR z).1.lp) e f) : Xright_Strip (tupZ z) K := by
  unfold Xright_Strip Yright_Strip
  refine sRight z hz ?_
  unfold stripR at h
  cases hr : zoneRight z
  · rw [if_pos (by rfl)]
    rw [hr, if_neg (by simp)] at h
    exact h _ _ _ _ _ _
  rw [if_neg (by simp)]
  rw [hr, if_pos rfl] at h
  have hzr : ZR z := ⟨hz, hr⟩
  refine sMoved_1 z hzr (fun q f' g i => ?_) fun q => ?_
  · rw [q] at h
    exact h _ _ _ _ _ _
  · have e : (movedR z (subR z)).1 = zn0 := by
      unfold movedR at q ⊢
      split at q
      · rename_i q1
        rw [if_pos q1]
        split at q
        · exact absurd rfl q
        · rename_i q2; rw [if_neg q2]
      · rename_i q1; rw [if_neg q1]
    rw [e] at h
    exact h _ _ _ _ _ _
theorem qSame12 (a b : List Rec) (hl : a.length ≤ 100000) {K : Bool → Prop} (h : K (a == b)) : Xepactref12_Same (RV a) (RV b) K := by
  unfold Xepactref12_Same Yepactref12_Same
  rw [RV_len, RV_len]
  by_cases e : a.length = b.length
  · rw [if_neg (by simp [e])]
    refine lp_ind (fun x => a.length - x.1.2.2.2.1.toNat) (fun x => ∃ j : Nat, j ≤ a.length ∧ x = ((RV a, RV b, false, (j : Int), ()), ()) ∧ a.take j = b.take j) ?_ ⟨0, by omega, rfl, rfl⟩
    rintro x ⟨j, hj, rfl, hall⟩ k hk
    unfold Lepactref12_Same_0
    simp only [decide_eq_true_eq, RV_len]
    by_cases ej : j = a.length
    · rw [if_neg (by omega)]
      rw [ej, List.take_length, e, List.take_length] at hall
      have : (a == b) = true := by rw [hall]; exact beq_self_eq_true _
      rw [this] at h; exact h
    · have h1 : j < a.length := by omega
      have h2 : j < b.length := by omega
      rw [Int.toNat_natCast, if_pos (by omega), if_pos (by omega)]
      refine asR1 h1 (asR2 h1 ?_)
      rw [if_pos (by omega)]
      refine asR1 h2 (asR2 h2 ?_)
      have e1 : w64 ((j : Int) + 1) = ((j + 1 : Nat) : Int) := by rw [w64_in (by omega) (by omega)]; omega
      simp only [e1]
      by_cases ee : a[j] = b[j]
      · rw [if_neg (by rw [ee]; simp)]
        refine hk _ ⟨j + 1, by omega, rfl, ?_⟩ ?_
        · rw [List.take_succ_eq_append_getElem h1, List.take_succ_eq_append_getElem h2, hall, ee]
        · show a.length - ((j + 1 : Nat) : Int).toNat < a.length - ((j : Nat) : Int).toNat
          omega
      · rw [if_pos (by
          simp only [Bool.not_eq_true', Bool.and_true, Bool.and_eq_false_iff, beq_eq_false_iff_ne, ne_eq]
          by_cases q : (a[j]).1 = (b[j]).1
          · exact .inr fun q2 => ee (Prod.ext q q2)
          · exact .inl q)]
        have : (a == b) = false := by
          rw [beq_eq_false_iff_ne]; intro hh; subst hh; exact ee rfl
        rw [this] at h; exact h
  · rw [if_pos (by simp; omega)]
    have : (a == b) = false := by
      rw [beq_eq_false_iff_ne]; intro hh; exact e (by rw [hh])
    rw [this] at h; exact h
theorem qSame16 (a b : Zn) (h1 : a.ty.length ≤ 100000) (h2 : a.tr.length ≤ 100000) (h3 : a.lp.length ≤ 100000) {K : Bool → Prop} (h : K (sameZ a b)) : Xepactref16_Same (tupZ a) (tupZ b) K := by
  show Xepactref16_Same (TV a.ty, RV a.tr, RV a.lp, S a.ft, a.v, ()) (TV b.ty, RV b.tr, RV b.lp, S b.ft, b.v, ()) K
  unfold Xepactref16_Same Yepactref16_Same
  dsimp only
  rw [TV_len, TV_len, RV_len, RV_len, S_toList, S_toList]
  have no : (a.ty ≠ b.ty ∨ a.tr ≠ b.tr ∨ a.ft ≠ b.ft ∨ a.v ≠ b.v) → K false := fun hn => by
    have : sameZ a b = false := by
      unfold sameZ
      simp only [Bool.and_eq_false_iff, beq_eq_false_iff_ne]
      rcases hn with hn | hn | hn | hn
      · exact .inl (.inl (.inl (.inl hn)))
      · exact .inl (.inl (.inl (.inr hn)))
      · exact .inl (.inr hn)
      · exact .inr hn
    rw [this] at h; exact h
  by_cases e1 : a.ty.length = b.ty.length
  · rw [if_neg (by simp [e1])]
    by_cases e2 : a.tr.length = b.tr.length
    · rw [if_neg (by simp [e2])]
      by_cases e3 : a.ft = b.ft
      · rw [if_neg (by simp [e3])]
        by_cases e4 : a.v = b.v
        · rw [if_neg (by simp [e4])]
          refine lp_ind (fun x => a.ty.length - x.1.2.2.2.1.toNat) (fun x => ∃ j : Nat, j ≤ a.ty.length ∧ x = (((), (), false, (j : Int), ()), (TV a.ty, RV a.tr, RV a.lp, S a.ft, a.v, ()), (TV b.ty, RV b.tr, RV b.lp, S b.ft, b.v, ()), ()) ∧ a.ty.take j = b.ty.take j) ?_ ⟨0, by omega, rfl, rfl⟩
          rintro x ⟨j, hj, rfl, hall⟩ k hk
          unfold Lepactref16_Same_0
          dsimp only
          rw [TV_len, TV_len, Int.toNat_natCast]
          by_cases ej : j = a.ty.length
          · rw [if_neg (dneg (by omega))]
            rw [ej, List.take_length, e1, List.take_length] at hall
            refine lp_ind (fun x => a.tr.length - x.1.2.2.2.1.toNat) (fun x => ∃ j : Nat, j ≤ a.tr.length ∧ x = (((), (), false, (j : Int), ()), (TV a.ty, RV a.tr, RV a.lp, S a.ft, a.v, ()), (TV b.ty, RV b.tr, RV b.lp, S b.ft, b.v, ()), ()) ∧ a.tr.take j = b.tr.take j) ?_ ⟨0, by omega, rfl, rfl⟩
            rintro x ⟨i, hi, rfl, hall2⟩ k2 hk2
            unfold Lepactref16_Same_1
            dsimp only
            rw [RV_len, RV_len, Int.toNat_natCast]
            by_cases ei : i = a.tr.length
            · rw [if_neg (dneg (by omega))]
              rw [ei, List.take_length, e2, List.take_length] at hall2
              refine qSame12 a.lp b.lp h3 ?_
              have : sameZ a b = (a.lp == b.lp) := by unfold sameZ; rw [hall, hall2, e3, e4]; simp
              rw [this] at h; exact h
            · have h1 : i < a.tr.length := by omega
              have h2 : i < b.tr.length := by omega
              rw [if_pos (decide_eq_true (by omega)), if_pos (by omega)]
              refine asR1 h1 (asR2 h1 ?_)
              rw [if_pos (by omega)]
              refine asR1 h2 (asR2 h2 ?_)
              have e1 : w64 ((i : Int) + 1) = ((i + 1 : Nat) : Int) := by rw [w64_in (by omega) (by omega)]; omega
              simp only [e1]
              by_cases ee : a.tr[i] = b.tr[i]
              · rw [if_neg (by rw [ee]; simp)]
                refine hk2 _ ⟨i + 1, by omega, rfl, ?_⟩ ?_
                · rw [List.take_succ_eq_append_getElem h1, List.take_succ_eq_append_getElem h2, hall2, ee]
                · show a.tr.length - ((i + 1 : Nat) : Int).toNat < a.tr.length - ((i : Nat) : Int).toNat
                  omega
              · rw [if_pos (by
                  simp only [Bool.not_eq_true', Bool.and_true, Bool.and_eq_false_iff, beq_eq_false_iff_ne, ne_eq]
                  by_cases q : (a.tr[i]).1 = (b.tr[i]).1
                  · exact .inr fun q2 => ee (Prod.ext q q2)
                  · exact .inl q)]
                refine no (.inr (.inl fun hh => ?_))
                have := congrArg (fun l => l[i]?) hh
                simp only [List.getElem?_eq_getElem h1, List.getElem?_eq_getElem h2] at this
                exact ee (Option.some.inj this)
          · have h1 : j < a.ty.length := by omega
            have h2 : j < b.ty.length := by omega
            rw [if_pos (decide_eq_true (by omega)), if_pos (by omega)]
            refine asT1 h1 (asT2 h1 (asT3 h1 ?_))
            rw [if_pos (by omega)]
            refine asT1 h2 (asT2 h2 (asT3 h2 ?_))
            have e1 : w64 ((j : Int) + 1) = ((j + 1 : Nat) : Int) := by rw [w64_in (by omega) (by omega)]; omega
            simp only [lt, e1, S_toList]
            by_cases ee : a.ty[j] = b.ty[j]
            · rw [if_neg (by rw [ee]; simp)]
              refine hk _ ⟨j + 1, by omega, rfl, ?_⟩ ?_
              · rw [List.take_succ_eq_append_getElem h1, List.take_succ_eq_append_getElem h2, hall, ee]
              · show a.ty.length - ((j + 1 : Nat) : Int).toNat < a.ty.length - ((j : Nat) : Int).toNat
                omega
            · have : (!((a.ty[j]).1 == (b.ty[j]).1 && ((a.ty[j]).2.1 == (b.ty[j]).2.1 && ((a.ty[j]).2.2 == (b.ty[j]).2.2 && true)))) = true := by
                rw [Bool.not_eq_true']
                cases hh : ((a.ty[j]).1 == (b.ty[j]).1 && ((a.ty[j]).2.1 == (b.ty[j]).2.1 && ((a.ty[j]).2.2 == (b.ty[j]).2.2 && true)))
                · rfl
                · exfalso
                  simp only [Bool.and_eq_true, beq_iff_eq, and_true] at hh
                  exact ee (Prod.ext hh.1 (Prod.ext hh.2.1 hh.2.2))
              rw [if_pos this]
              refine no (.inl fun hh => ?_)
              have := congrArg (fun l => l[j]?) hh
              simp only [List.getElem?_eq_getElem h1, List.getElem?_eq_getElem h2] at this
              exact ee (Option.some.inj this)
        · rw [if_pos (by simpa using e4)]; exact no (.inr (.inr (.inr e4)))
      · rw [if_pos (by simpa using e3)]; exact no (.inr (.inr (.inl e3)))
    · rw [if_pos (by simp; omega)]; exact no (.inr (.inl fun hh => e2 (by rw [hh])))
  · rw [if_pos (by simp; omega)]; exact no (.inl fun hh => e1 (by rw [hh]))
end Go.Proofs.YtenaflbcnkalbaaGreatDoor
end
section
set_option linter.unusedVariables false
set_option linter.unusedSimpArgs false
namespace Go.Proofs.YtenaflbcnkalbaaGreatDoor
open Go Go.Proofs.YtenaflbcnkalbaaGreatDoor.Eng Go.Proofs.YtenaflbcnkalbaaGreatDoor.Pl
set_option linter.unusedVariables false
set_option linter.unusedSimpArgs false
set_option maxRecDepth 100000
set_option maxHeartbeats 4000000
def rTy : List Ty := [(-18000, false, [69, 83, 84]), (-14400, true, [69, 68, 84])]
def rZ : Zn := ⟨rTy, [(5, 1), (78796799, 0), (78796801, 1), (100000000, 0)], [], [], 2⟩
def rX : Zn := ⟨rTy, [(5, 1), (78796799, 0), (78796801, 1), (100000000, 0)], [], [], 4⟩
def rY : Zn := ⟨rTy, [(5, 1), (78796799, 0), (78796802, 1), (100000002, 0)], [(78796800, 1), (94694401, 2), (200000002, 2)], [], 4⟩
def rW : Zn := ⟨rTy, [(78796799, 0), (78796800, 1)], [], [], 2⟩
def rT : Tb := ⟨[(911, 1, false), (1095, 1, false)], true, 200000000⟩
def rU : Tb := ⟨[(911, 1, true)], false, 0⟩
def rV : Tb := ⟨[(911, -1, false)], false, 0⟩
theorem iZ : ZI rZ := ⟨by decide, by decide, by decide, by decide, by decide, by unfold recI; decide, by unfold recI; decide, by decide⟩
theorem iY : ZI rY := ⟨by decide, by decide, by decide, by decide, by decide, by unfold recI; decide, by unfold recI; decide, by decide⟩
theorem iW : ZI rW := ⟨by decide, by decide, by decide, by decide, by decide, by unfold recI; decide, by unfold recI; decide, by decide⟩
theorem rzZ : ZR rZ := ⟨iZ, by kernel_rfl⟩
theorem sCompileAt (z : Zn) (hz : ZI z) (t : Tb) (r : Zn × Int) (e : compileR z t = r) (hl : Nat.ble t.ls.length 1000 = true) {K : _ → _ → _ → _ → _ → _ → _ → _ → _ → _ → _ → Prop}
    (h : ∀ a b c d e f, K ((), (), (), S r.1.ft, r.1.v, ()) r.2 (TV r.1.ty) a b (RV r.1.tr) c d (RV r.1.lp) e f) : Xright_Compile (tupZ z) (tupB t) K := by
  subst e; exact sCompile z hz t (Nat.le_of_ble_eq_true hl) h
theorem sStripAt (z : Zn) (hz : ZI z) (r : Zn × Int) (e : stripR z = r) {K : _ → _ → _ → _ → _ → _ → _ → _ → _ → _ → _ → Prop}
    (h : ∀ a b c d e f, K ((), (), (), S r.1.ft, r.1.v, ()) r.2 (TV r.1.ty) a b (RV r.1.tr) c d (RV r.1.lp) e f) : Xright_Strip (tupZ z) K := by
  subst e; exact sStrip z hz h
theorem sRecordsAt (z : Zn) (hz : ZR z) (t : Tb) (ht : rightT t = true) (r : List Rec × Int) (e : recordsR z t = r) {K : Int → List V → Bool → Bool → Prop} (h : ∀ o f, K r.2 (RV r.1) o f) : Xright_Records (tupZ z) (tupB t) K := by
  subst e; exact sRecords z hz t ht h
theorem sShiftAt (z : Zn) (hz : ZR z) (t : Tb) (ht : rightT t = true) (p : Int) (hp : i64r p) (r : Int × Bool) (e : shiftR z t.ls p = r) {K : Int → Bool → Prop} (h : K r.1 r.2) : Xright_Shift (tupZ z) (tupB t) p K := by
  subst e; exact sShift z hz t ht p hp h
theorem rsmall {K : Bool → Prop} (h : K true) : Xepactlaw21_small K := by
  rw [Xepactlaw21_small, Yepactlaw21_small]
  refine sCompileAt rZ iZ rT (rY, 0) (by kernel_rfl) (by kernel_rfl) fun a1 a2 a3 a4 a5 a6 => ?_
  refine sStripAt rY iY (rX, 0) (by kernel_rfl) fun b1 b2 b3 b4 b5 b6 => ?_
  rw [if_neg (show ¬ ((((RV rY.tr).length : Nat) : Int) != 4) = true by rw [RV_len]; decide), if_neg (show ¬ ((((RV rY.lp).length : Nat) : Int) != 3) = true by rw [RV_len]; decide)]
  refine sRecordsAt rZ rzZ rU (by kernel_rfl) ([(78814800, 1)], 0) (by kernel_rfl) fun c1 c2 => ?_
  refine sShiftAt rZ rzZ rT (by kernel_rfl) 78796800 (by unfold i64r; decide) (78796801, true) (by kernel_rfl) ?_
  refine sCompileAt rY iY rT (zn0, 1) (by kernel_rfl) (by kernel_rfl) fun d1 d2 d3 d4 d5 d6 => ?_
  refine sCompileAt rW iW rV (zn0, 4) (by kernel_rfl) (by kernel_rfl) fun e1 e2 e3 e4 e5 e6 => ?_
  refine sShiftAt rZ rzZ rT (by kernel_rfl) 9223372036854775807 (by unfold i64r; decide) (0, false) (by kernel_rfl) ?_
  have l4 : (RV rY.tr).length = 4 := by rw [RV_len]; decide
  have l3 : (RV rY.lp).length = 3 := by rw [RV_len]; decide
  simp only [l4, l3]
  rw [if_pos (by decide), if_pos (by decide)]
  refine asR1 (l := rY.tr) (i := 0) (by decide) ?_
  rw [if_pos (by decide), if_pos (by decide)]
  refine asR1 (l := rY.tr) (i := 1) (by decide) ?_
  rw [if_pos (by decide), if_pos (by decide)]
  refine asR1 (l := rY.tr) (i := 2) (by decide) ?_
  rw [if_pos (by decide), if_pos (by decide)]
  refine asR1 (l := rY.tr) (i := 3) (by decide) ?_
  rw [if_pos (by decide), if_pos (by decide), if_pos (by decide)]
  refine asR1 (l := rY.lp) (i := 2) (by decide) (asR2 (l := rY.lp) (i := 2) (by decide) ?_)
  rw [if_pos (by decide), if_pos (by decide)]
  refine qSame16 rZ rZ (by decide) (by decide) (by decide) ?_
  rw [if_pos (by kernel_rfl)]
  refine sInst rZ rzZ (911, 1, true) (by decide) ?_
  rw [show instR rZ (911, 1, true) = 78814800 by kernel_rfl, if_pos (by decide), if_pos (by decide)]
  refine qSame12 [(78814800, 1)] [(78814800, 1)] (by decide) ?_
  rw [if_pos (by decide), if_pos (by decide), if_pos trivial, if_pos (by decide), if_pos (by decide)]
  exact h
theorem no_leaps (z : Zn) : (tupZ z).2.2.1.length = z.lp.length := RV_len z.lp
end Go.Proofs.YtenaflbcnkalbaaGreatDoor
end
section
set_option linter.unusedVariables false
set_option linter.unusedSimpArgs false
namespace Go.Proofs.YtenaflbcnkalbaaGreatDoor
open Go Go.Proofs.YtenaflbcnkalbaaGreatDoor.Eng Go.Proofs.YtenaflbcnkalbaaGreatDoor.Pl
set_option linter.unusedVariables false
set_option linter.unusedSimpArgs false
set_option maxRecDepth 100000
set_option maxHeartbeats 4000000
def rollB (ls : List LR) : Bool := ls.any fun l => l.2.2
theorem sRoll (ls : List LR) (hl : ls.length ≤ 100000) {K : Bool → Prop} (h : K (rollB ls)) : Xslices_ContainsFunc___api_Leap_api_Leap_ (TLV ls) K := by
  unfold Xslices_ContainsFunc___api_Leap_api_Leap_ Yslices_ContainsFunc___api_Leap_api_Leap_ Xslices_IndexFunc___api_Leap_api_Leap_ Yslices_IndexFunc___api_Leap_api_Leap_
  rw [TLV_len]
  refine lp_ind (fun x => ls.length - x.1.2.2.2.2.1.toNat) (fun x => ∃ j : Nat, j ≤ ls.length ∧ rollB (ls.take j) = false ∧ x = ((TLV ls, ((), ()), (0 : Int), (ls.length : Int), (j : Int), ()), ())) ?_ ⟨0, by omega, rfl, rfl⟩
  rintro x ⟨j, hj, hall, rfl⟩ k hk
  unfold Lslices_IndexFunc___api_Leap_api_Leap__0
  dsimp only
  rw [TLV_len, Int.toNat_natCast]
  by_cases e : j < ls.length
  · rw [if_pos (decide_eq_true (by omega)), if_pos (by omega)]
    refine asL1 e (asL2 e (asL3 e ?_))
    unfold Xrecord_Records_1 Yrecord_Records_1
    dsimp only
    cases hr : (ls[j]).2.2
    · rw [if_neg (by simp)]
      have w1 : w64 ((j : Int) + 1) = ((j + 1 : Nat) : Int) := by rw [w64_in (by omega) (by omega)]; omega
      rw [w1]
      refine hk _ ⟨j + 1, e, ?_, rfl⟩ (by show ls.length - Int.toNat ((j + 1 : Nat) : Int) < ls.length - Int.toNat (j : Int); omega)
      unfold rollB at hall ⊢
      rw [List.take_succ_eq_append_getElem e, List.any_append, hall]
      simp [hr]
    · rw [if_pos rfl]
      have : rollB ls = true := List.any_eq_true.2 ⟨_, List.getElem_mem e, hr⟩
      rw [this] at h
      rw [decide_eq_true (by omega)]; exact h
  · have : j = ls.length := by omega
    subst this
    rw [List.take_length] at hall
    rw [if_neg (dneg (by omega))]
    rw [hall] at h; exact h
theorem sRecUtc (t : Tb) (hl : t.ls.length ≤ 1000) {K : Bool → List V → Bool → Bool → Prop}
    (hno : ¬ (rightT t = true ∧ rollB t.ls = false) → K false [] true true) (hok : rightT t = true → rollB t.ls = false → K true (RV (recAll zn0 t)) true false) : Xrecord_Records (tupB t) K := by
  unfold Xrecord_Records Yrecord_Records
  refine kRightT t (by omega) ?_
  cases ht : rightT t
  · rw [if_pos (by rfl)]; exact hno (by simp [ht])
  rw [if_neg (by simp)]
  refine sRoll t.ls (by omega) ?_
  cases hrb : rollB t.ls
  rotate_left
  · rw [if_pos rfl]; exact hno (by simp [hrb])
  rw [if_neg (by simp)]
  have hr : ∀ l ∈ t.ls, l.2.2 = false := fun l hl => by
    cases q : l.2.2
    · rfl
    · have : rollB t.ls = true := List.any_eq_true.2 ⟨l, hl, q⟩
      rw [hrb] at this; cases this
  have hok := hok ht hrb
  have hst := right_steps ht
  have hlen := right_len ht
  have sb := sumT_bd hst
  have st := stepT_of hst
  rw [TLV_len]
  refine lp_at (fun j => (((), (), false, sumT t.ls j, TLV t.ls, (t.ls.length : Int), (j : Int), ()), tupB t, RV (recG zn0 0 (t.ls.take j)), ())) t.ls.length rfl fun j hj k hk => ?_
  unfold Lrecord_Records_0
  dsimp only
  have lj : (recG zn0 0 (t.ls.take j)).length = j := by rw [recG_len]; simp; omega
  rw [TLV_len, RV_len, lj, Int.toNat_natCast]
  have rm : roomOk (j + 1) 16 = true := room16 _ (by omega)
  by_cases e : j < t.ls.length
  · rw [if_pos (decide_eq_true (by omega)), if_pos (by omega)]
    refine asL1 e (asL2 e (asL3 e ?_))
    have hd := right_rng ht _ (List.getElem_mem e)
    have b1 := sb j
    have b2 := sb (j + 1)
    have s1 := sumT_succ e
    have s2 := st j e
    have s3 : Pl.stepT t.ls j = (t.ls[j]).2.1 := by unfold Pl.stepT; rw [List.getD, List.getElem?_eq_getElem e]; rfl
    have hi : instR zn0 t.ls[j] = midL t.ls[j] := inst_utc (hr _ (List.getElem_mem e))
    have hm : midL t.ls[j] = ((t.ls[j]).1 + 1) * 86400 := rfl
    have w0 : w64 (w64 ((t.ls[j]).1 + 1) * 86400) = midL t.ls[j] := by rw [w64_in (n := (t.ls[j]).1 + 1) (by omega) (by omega), w64_in (by omega) (by omega), hm]
    have w1 : w64 ((j : Int) + 1) = ((j + 1 : Nat) : Int) := by rw [w64_in (by omega) (by omega)]; omega
    have w2 : w64 (sumT t.ls j + (t.ls[j]).2.1) = sumT t.ls (j + 1) := by rw [w64_in (by omega) (by omega)]; omega
    have w3 : w64 (w64 (midL t.ls[j] + sumT t.ls j) + (if 0 < (t.ls[j]).2.1 then 0 else (t.ls[j]).2.1)) = instR zn0 t.ls[j] + sumT t.ls j + min (t.ls[j]).2.1 0 := by
      rw [min0, w64_in (n := midL t.ls[j] + sumT t.ls j) (by omega) (by omega), w64_in (by omega) (by omega), hi]
    simp only [lt, w0, w1, w2, w3, List.length_singleton]
    rw [if_pos rm, rec_snoc]
    have ng : recG zn0 0 (t.ls.take (j + 1)) = recG zn0 0 (t.ls.take j) ++ [(instR zn0 t.ls[j] + sumT t.ls j + min (t.ls[j]).2.1 0, sumT t.ls (j + 1))] := by
      rw [← recG_take, ← recG_take, List.take_succ_eq_append_getElem (by rw [recG_len]; exact e), recG_get zn0 t.ls 0 j e (by rw [recG_len]; exact e), s3]
      simp
    rw [← ng]
    exact hk e
  · have : j = t.ls.length := by omega
    subst this
    rw [if_neg (dneg (by omega))]
    rw [List.take_length]
    unfold recAll at hok
    by_cases hh : t.has = true
    · have x := (right_ex ht).2 hh
      have b1 := sb t.ls.length
      have w4 : w64 (t.ex + sumT t.ls t.ls.length) = t.ex + sumT t.ls t.ls.length := w64_in (by omega) (by omega)
      rw [if_pos hh]
      simp only [lt, w4, List.length_singleton]
      rw [if_pos rm, rec_snoc]
      rw [if_pos hh] at hok
      have e : sumT t.ls t.ls.length = stepsL t.ls := by unfold sumT; rw [List.take_length]
      rw [e]; exact hok
    · rw [if_neg hh]
      rw [if_neg hh, List.append_nil] at hok; exact hok
theorem lRightPlain (z : Zn) (hg : ZG z) (t : Tb) {K : Bool → Prop} (h : K true) : Xepactlaw21_RightPlain (tupZ z) (tupB t) K := by
  rw [Xepactlaw21_RightPlain, Yepactlaw21_RightPlain]
  refine rsmall (sFew z hg.tl (fun hf => ?_) ?_)
  rotate_left
  · unfold Xepactlaw09_Few Yepactlaw09_Few
    dsimp only
    rw [if_pos (by rfl)]; exact h
  unfold Xepactlaw09_Few Yepactlaw09_Few
  dsimp only
  rw [if_neg (by simp), TLV_len]
  by_cases e1 : ((t.ls.length : Nat) : Int) ≤ 300
  rotate_left
  · rw [if_pos (by simp; omega)]; exact h
  rw [if_neg (by simp; omega)]
  have hz := hg.zi hf
  refine sRight z hz ?_
  cases hr : zoneRight z
  · rw [if_pos (by rfl)]; exact h
  have hzr : ZR z := ⟨hz, hr⟩
  rw [if_neg (by simp), no_leaps]
  by_cases e2 : ((z.lp.length : Nat) : Int) > 0
  · rw [if_pos (decide_eq_true e2)]; exact h
  rw [if_neg (dneg e2)]
  have hlp : z.lp = [] := List.length_eq_zero_iff.1 (by omega)
  refine sCompileAt z hz tb0 (z, 0) (compile_none hr hlp fun c hc => (hz.ti c hc).1) (by rfl) fun f1 f2 f3 f4 f5 f6 => ?_
  have same : sameZ z z = true := by unfold sameZ; simp
  refine sRecUtc t (by omega) (fun hno => ?_) fun ht hrb => ?_
  · rw [if_pos (by rfl), if_pos rfl, if_pos (by rfl)]
    refine zSame z z hz hz ?_
    rw [same]; exact h
  · rw [if_neg (by simp)]
    have hroll : ∀ l ∈ t.ls, l.2.2 = false := fun l hl => by
      cases q : l.2.2
      · rfl
      · have : rollB t.ls = true := List.any_eq_true.2 ⟨l, hl, q⟩
        rw [hrb] at this; cases this
    have hrec := recs_utc z ht hroll
    have e0 : recAll z t = recAll zn0 t := by unfold recAll; rw [recs_same z t.ls 0 hroll]
    have er : recordsR z t = (recAll zn0 t, 0) := by unfold recordsR; rw [if_pos hrec, e0]
    refine sRecordsAt z hzr t ht _ er fun o f => ?_
    rw [if_pos rfl, if_pos (by rfl)]
    refine zSame z z hz hz ?_
    rw [same, if_pos rfl, if_pos (by rfl)]
    unfold Xrecord_Same Yrecord_Same
    have hlen := recAll_len zn0 t
    have hl2 : (recAll zn0 t).length ≤ 100000 := by rw [hlen]; split <;> omega
    refine sEqR2 _ _ hl2 hl2 ?_
    rw [beq_self_eq_true]; exact h
end Go.Proofs.YtenaflbcnkalbaaGreatDoor
end
section
set_option linter.unusedVariables false
set_option linter.unusedSimpArgs false
namespace Go.Proofs.YtenaflbcnkalbaaGreatDoor
open Go Go.Proofs.YtenaflbcnkalbaaGreatDoor.Eng Go.Proofs.YtenaflbcnkalbaaGreatDoor.Pl
set_option linter.unusedVariables false
set_option linter.unusedSimpArgs false
theorem wfI {n : Int} (h : (Lit.int .i64 n).wf = true) : i64r n := by
  simp [Lit.wf, IntKind.min, IntKind.max, IntKind.bits, IntKind.signed] at h
  unfold i64r; omega
theorem zone_of (tys : List (Int × Bool × ByteArray × Unit)) (trs lps : List (Int × Int × Unit)) (ft : ByteArray) (v : Int) (h1 : tys.length ≤ 9223372036854775807)
    (h2 : ∀ c ∈ trs, (Lit.int .i64 c.1).wf = true ∧ (Lit.int .i64 c.2.1).wf = true ∧ True) (h3 : ∀ c ∈ lps, (Lit.int .i64 c.1).wf = true ∧ (Lit.int .i64 c.2.1).wf = true ∧ True) (h4 : (Lit.int .i64 v).wf = true) :
    ∃ z, ZG z ∧ ((tys.map fun x => V.agg [.c (.int .i64 x.1), .c (.bool x.2.1), .c (.string x.2.2.1)], trs.map fun x => V.agg [.c (.int .i64 x.1), .c (.int .i64 x.2.1)], lps.map fun x => V.agg [.c (.int .i64 x.1), .c (.int .i64 x.2.1)], ft, v, ()) : List V × List V × List V × ByteArray × Int × Unit) = tupZ z := by
  have rcI : ∀ l : List (Int × Int × Unit), (∀ c ∈ l, (Lit.int .i64 c.1).wf = true ∧ (Lit.int .i64 c.2.1).wf = true ∧ True) → recI (l.map fun c => (c.1, c.2.1)) := fun l hl c hc => by
    obtain ⟨d, hd, rfl⟩ := List.mem_map.1 hc
    exact ⟨wfI (hl d hd).1, wfI (hl d hd).2.1⟩
  refine ⟨⟨tys.map fun t => (t.1, t.2.1, t.2.2.1.data.toList), trs.map fun c => (c.1, c.2.1), lps.map fun c => (c.1, c.2.1), ft.data.toList, v⟩, ⟨rcI lps h3, rcI trs h2, wfI h4, by simpa using h1⟩, ?_⟩
  unfold tupZ
  simp only [List.map_map]
  rfl
abbrev akZ : AK := (.st (.cons (.sl (.st (.cons (.int .i64) (.cons .bool (.cons .str .nil))))) (.cons (.sl (.st (.cons (.int .i64) (.cons (.int .i64) .nil)))) (.cons (.sl (.st (.cons (.int .i64) (.cons (.int .i64) .nil)))) (.cons .str (.cons (.int .i64) .nil))))))
theorem zone_in (a : akZ.T) (h : akZ.good a) : ∃ z, ZG z ∧ (akZ.DV a : List V × List V × List V × ByteArray × Int × Unit) = tupZ z := by
  obtain ⟨tys, trs, lps, ft, v, u⟩ := a
  obtain ⟨h1, h2, h3, h4, h5, h6⟩ := h
  exact zone_of tys trs lps ft v h1.1 h2.2 h3.2 h5
end Go.Proofs.YtenaflbcnkalbaaGreatDoor
end
section
set_option linter.unusedVariables false
set_option linter.unusedSimpArgs false
namespace Go.Proofs.YtenaflbcnkalbaaGreatDoor
open Go Go.Proofs.YtenaflbcnkalbaaGreatDoor.Eng Go.Proofs.YtenaflbcnkalbaaGreatDoor.Pl
set_option linter.unusedVariables false
set_option linter.unusedSimpArgs false
abbrev akT : AK := (.st (.cons (.sl (.st (.cons (.int .i64) (.cons (.int .i64) (.cons .bool .nil))))) (.cons .bool (.cons (.int .i64) .nil))))
theorem wfT {n : Int} (h : (Lit.int .i64 n).wf = true) : -9223372036854775808 ≤ n ∧ n ≤ 9223372036854775807 := by
  simp [Lit.wf, IntKind.min, IntKind.max, IntKind.bits, IntKind.signed] at h
  omega
theorem table_of (ls : List (Int × Int × Bool × Unit)) (has : Bool) (ex : Int) (h1 : ls.length ≤ 9223372036854775807) (h3 : (Lit.int .i64 ex).wf = true) :
    ∃ t : Tb, ((ls.map fun x => V.agg [.c (.int .i64 x.1), .c (.int .i64 x.2.1), .c (.bool x.2.2.1)], has, ex, ()) : List V × Bool × Int × Unit) = (TLV t.ls, t.has, t.ex, ()) ∧ (-9223372036854775808 ≤ t.ex ∧ t.ex ≤ 9223372036854775807) ∧ t.ls.length ≤ 9223372036854775807 := by
  refine ⟨⟨ls.map fun x => (x.1, x.2.1, x.2.2.1), has, ex⟩, ?_, wfT h3, by simpa using h1⟩
  unfold TLV
  rw [List.map_map]; rfl
theorem table_in (a : akT.T) (h : akT.good a) : ∃ t : Tb, (akT.DV a : List V × Bool × Int × Unit) = (TLV t.ls, t.has, t.ex, ()) ∧ (-9223372036854775808 ≤ t.ex ∧ t.ex ≤ 9223372036854775807) ∧ t.ls.length ≤ 9223372036854775807 := by
  obtain ⟨ls, has, ex, u⟩ := a
  obtain ⟨h1, h2, h3, h4⟩ := h
  exact table_of ls has ex h1.1 h3
end Go.Proofs.YtenaflbcnkalbaaGreatDoor
end
section
set_option linter.unusedVariables false
set_option linter.unusedSimpArgs false
namespace Go.Proofs.YtenaflbcnkalbaaGreatDoor
open Go Go.Proofs.YtenaflbcnkalbaaGreatDoor.Eng Go.Proofs.YtenaflbcnkalbaaGreatDoor.Pl
theorem pureRightPlain : PureRightPlain := by
  intro a0 h0 a1 h1
  obtain ⟨z, hz, e⟩ := zone_in a0 h0
  obtain ⟨t, e', hx, _⟩ := table_in a1 h1
  rw [show (akRightPlain0.DV a0 : List V × List V × List V × ByteArray × Int × Unit) = tupZ z from e, show (akRightPlain1.DV a1 : List V × Bool × Int × Unit) = tupB t from e']
  exact lRightPlain z hz t rfl
end Go.Proofs.YtenaflbcnkalbaaGreatDoor
end
