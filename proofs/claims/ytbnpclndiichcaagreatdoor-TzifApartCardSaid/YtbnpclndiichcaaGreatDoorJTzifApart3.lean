/- What the functions come to in plain data, with proofs, and what that answers. -/
import Derived.Test.YtbnpclndiichcaaGreatDoorJTzifApart2
section
set_option linter.unusedVariables false
set_option linter.unusedSimpArgs false
namespace Go.Proofs.YtbnpclndiichcaaGreatDoor
open Go Go.Proofs.YtbnpclndiichcaaGreatDoor.Eng Go.Proofs.YtbnpclndiichcaaGreatDoor.Pl
set_option linter.unusedVariables false
set_option linter.unusedSimpArgs false
set_option maxRecDepth 100000
set_option maxHeartbeats 4000000
theorem count_head (z : Zn) : countOk z = (((z.ty.map (·.2.2)).all abbrL && decide (poolN [] (z.ty.map (·.2.2)) ≤ 256)) && headOk (hdZ z)) := by
  have e := poolL_size (namesZ z)
  unfold countOk headOk hdZ
  dsimp only
  rw [e]
  unfold namesZ
  simp only [beq_self_eq_true, Bool.true_or, Bool.and_true, ← Bool.and_assoc]
theorem hdZ_tup (z : Zn) (c : Nat) (hc : (poolL (namesZ z)).1.length = c) : tupHd (hdZ z) = (z.v, 0, 0, (z.lp.length : Int), (z.tr.length : Int), (z.ty.length : Int), (c : Int), ()) := by
  unfold tupHd hdZ; dsimp only; rw [hc]
theorem tCountZ (z : Zn) (hz : ZI z) {K : Int × Int × Int × Int × Int × Int × Int × Unit → Bool → Prop} (h1 : countOk z = true → K (tupHd (hdZ z)) true) (h2 : countOk z = false → K (tupHd hd0) false) : Xblock_Count (tupZ z) K := by
  unfold Xblock_Count Yblock_Count
  rw [count_head] at h1 h2
  refine tpoolZ z hz (fun o y q => ?_) (fun q p a o y => ?_)
  · rw [if_neg (by simp)]
    rw [q, Bool.true_and] at h1 h2
    simp only [tupZ_eq, TV_len, RV_len, S_size]
    generalize hc : (poolL (z.ty.map (·.2.2))).1.length = c
    rw [← hdZ_tup z c hc]
    refine tHeadRight (hdZ z) ?_
    cases c : headOk (hdZ z)
    · rw [if_pos (show (!false) = true from rfl)]; exact h2 c
    · rw [if_neg (by simp)]; exact h1 c
  · rw [if_pos (show (!false) = true from rfl)]
    exact h2 (by rw [q]; rfl)
theorem blockB_le (z : Zn) (hz : ZI z) (k : Nat) (hk : k = 4 ∨ k = 8) : (blockB z k).length ≤ 100000 := by
  have pbd := poolG_bd (namesZ z) [] [] 100 (fun s hs => by
    obtain ⟨t, ht, rfl⟩ := List.mem_map.1 hs
    exact hz.nm t ht) (by simp)
  have hnl : (namesZ z).length = z.ty.length := by simp [namesZ]
  have h1 := pbd.1
  rw [hnl] at h1
  rw [block_len]
  unfold poolL
  have := hz.ty; have := hz.tr; have := hz.lp
  simp at h1
  rcases hk with rfl | rfl <;> omega
theorem tPart (z : Zn) (hz : ZI z) (k : Nat) (hk : k = 4 ∨ k = 8) {K : Bool → List V → Bool → Bool → Prop} (h1 : (blockR z k).2 = true → K true (B8 (partR z k)) true false) (h2 : (blockR z k).2 = false → ∀ l o f, K false l o f) : Xtzif_part (tupZ z) (k : Int) K := by
  unfold Xtzif_part Ytzif_part
  have hbl := blockB_le z hz k hk
  refine tCountZ z hz (fun c => ?_) (fun c => ?_)
  · refine tHeadEncode (hdZ z) (fun q f => ?_) (fun q => ?_)
    · refine tEncode z hz k hk fun o f2 => ?_
      cases hb : (blockR z k).2
      · have hl : (blockR z k).1 = [] := by
          unfold blockR at hb ⊢; split at hb
          · cases hb
          · rename_i w; rw [if_neg w]
        rw [hl]
        refine tConcat [headE (hdZ z), []] (by simp) (fun a ha => ?_) fun f3 _ => ?_
        · simp only [List.mem_cons, List.not_mem_nil, or_false] at ha
          rcases ha with rfl | rfl
          · rw [headE_len]; omega
          · simp
        · rw [if_pos rfl]; exact h2 hb _ _ _
      · obtain ⟨w1, w2⟩ := blockR_ok hb
        rw [w2]
        dsimp only
        refine tConcat [headE (hdZ z), blockB z k] (by simp) (fun a ha => ?_) fun f3 hf3 => ?_
        · simp only [List.mem_cons, List.not_mem_nil, or_false] at ha
          rcases ha with rfl | rfl
          · rw [headE_len]; omega
          · omega
        · have e : [headE (hdZ z), blockB z k].flatten = partR z k := by simp [partR]
          have hne : [headE (hdZ z), blockB z k].flatten ≠ [] := fun w => by
            have := congrArg List.length w
            rw [e, part_len] at this; simp at this
          rw [if_pos rfl, hf3 hne, e]
          exact h1 hb
    · rw [head_hdZ c] at q; cases q
  · have hb : (blockR z k).2 = false := by unfold blockR; rw [if_neg (by rw [c]; simp)]
    have hl : (blockR z k).1 = [] := by unfold blockR; rw [if_neg (by rw [c]; simp)]
    refine tHeadEncode hd0 (fun q f => absurd q (by decide)) (fun q => ?_)
    refine tEncode z hz k hk fun o f2 => ?_
    rw [hl]
    refine tConcat [[], []] (by simp) (fun a ha => by simp only [List.mem_cons, List.not_mem_nil, or_false] at ha; rcases ha with rfl | rfl <;> simp) fun f3 _ => ?_
    rw [if_neg (by simp)]; exact h2 hb _ _ _
theorem size_hd1 {v : Int} (h : 1 ≤ v ∧ v ≤ 4) : sizeR ⟨v, 0, 0, 0, 0, 1, 1⟩ 4 = 7 := by
  unfold sizeR; rw [if_pos ⟨hd1_ok h, .inl rfl⟩]; simp
theorem tTzEncode (z : Zn) (hz : ZI z) {K : Bool → List V → Bool → Bool → Prop} (h1 : (encR z).2 = true → K true (B8 (encR z).1) true false) (h2 : (encR z).2 = false → K false [] true true) : Xtzif_Encode (tupZ z) K := by
  unfold Xtzif_Encode Ytzif_Encode
  have ev : (tupZ z).2.2.2.2.1 = z.v := rfl
  have ef : (tupZ z).2.2.2.1 = S z.ft := rfl
  rw [ev, ef]
  unfold encR at h1 h2
  by_cases v1 : z.v = 1
  · have es : szZ z = 4 := by unfold szZ; rw [if_pos v1]
    rw [es, if_pos v1] at h1
    rw [es] at h2
    rw [if_pos (by simp [v1])]
    refine tPart z hz 4 (.inl rfl) (fun hb => ?_) (fun hb l o f => ?_)
    · rw [if_neg (by simp)]
      refine sRight z hz ?_
      cases hr : zoneRight z
      · rw [if_pos (by rfl)]
        rw [if_neg (by rw [hr]; simp)] at h2
        exact h2 rfl
      · rw [if_neg (by simp), if_pos (by simp [v1])]
        rw [if_pos ⟨hb, hr⟩] at h1
        exact h1 rfl
    · rw [if_pos (by rfl)]
      rw [if_neg (by rw [hb]; simp)] at h2
      exact h2 rfl
  · have es : szZ z = 8 := by unfold szZ; rw [if_neg v1]
    rw [es, if_neg v1] at h1
    rw [es] at h2
    rw [if_neg (by simpa using v1)]
    refine tPart z hz 8 (.inr rfl) (fun hb => ?_) (fun hb l o f => ?_)
    · rw [if_neg (by simp)]
      refine sRight z hz ?_
      cases hr : zoneRight z
      · rw [if_pos (by rfl)]
        rw [if_neg (by rw [hr]; simp)] at h2
        exact h2 rfl
      · rw [if_neg (by simp), if_neg (by simpa using v1)]
        rw [if_pos ⟨hb, hr⟩] at h1
        have h1 := h1 rfl
        have hc := right_count hr
        have hv := (count_ok hc).v
        have hft := hz.ft
        have hbl := blockB_le z hz 8 (.inr rfl)
        refine tHeadEncode ⟨z.v, 0, 0, 0, 0, 1, 1⟩ (fun q f => ?_) (fun q => by rw [hd1_ok hv] at q; cases q)
        have e10 : ByteArray.mk #[(10 : UInt8)] = S [10] := rfl
        rw [e10, S_size, S_append, S_size, S_append, if_neg (by omega), if_neg (by simp; omega)]
        simp only [lt]
        rw [bytesV_S]
        have hgo : ∀ (r : Int), r = 7 → (if (0 : Int) ≤ r ∧ r ≤ r ∧ r ≤ 4294967296 then Xslices_Concat___byte_byte_ [V.sl 1 false (B8 (headE ⟨z.v, 0, 0, 0, 0, 1, 1⟩)), V.sl 1 false (List.replicate (Int.toNat r) (Eng.ofVal (Value.int IntKind.u8 (0 : Int)))), V.sl 1 false (B8 (partR z 8)), V.sl 1 false (B8 ([10] ++ z.ft ++ [10]))] (fun a b c => K true a b c) else False) := fun r hr7 => by
          subst hr7
          rw [if_pos (by decide)]
          refine tConcat [headE ⟨z.v, 0, 0, 0, 0, 1, 1⟩, List.replicate 7 0, partR z 8, [10] ++ z.ft ++ [10]] (by simp) (fun a ha => ?_) fun f3 hf3 => ?_
          · simp only [List.mem_cons, List.not_mem_nil, or_false] at ha
            rcases ha with rfl | rfl | rfl | rfl
            · rw [headE_len]; omega
            · rw [List.length_replicate]; omega
            · rw [part_len]; omega
            · simp; omega
          · have e : [headE ⟨z.v, 0, 0, 0, 0, 1, 1⟩, List.replicate 7 0, partR z 8, [10] ++ z.ft ++ [10]].flatten = headE ⟨z.v, 0, 0, 0, 0, 1, 1⟩ ++ (List.replicate 7 0 ++ (partR z 8 ++ (10 :: (z.ft ++ [10])))) := by simp
            have hne : [headE ⟨z.v, 0, 0, 0, 0, 1, 1⟩, List.replicate 7 0, partR z 8, [10] ++ z.ft ++ [10]].flatten ≠ [] := fun w => by
              have := congrArg List.length w
              rw [e, List.length_append, headE_len] at this; simp at this
            rw [hf3 hne, e]
            exact h1
        have hsz : ∀ {Q : Int → Prop}, Q 7 → Xhead_Size (tupHd ⟨z.v, 0, 0, 0, 0, 1, 1⟩) ((4 : Nat) : Int) Q := fun {Q} hQ => by
          refine tSize _ 4 (.inl rfl) ?_
          rw [size_hd1 hv]; exact hQ
        refine ⟨hsz (Q := fun r => _) ?_, hsz (Q := fun r => _) ?_⟩
        · exact ⟨hgo 7 rfl, hgo 7 rfl⟩
        · exact hgo 7 rfl
    · rw [if_pos (by rfl)]
      rw [if_neg (by rw [hb]; simp)] at h2
      exact h2 rfl
end Go.Proofs.YtbnpclndiichcaaGreatDoor
end
section
set_option linter.unusedVariables false
set_option linter.unusedSimpArgs false
namespace Go.Proofs.YtbnpclndiichcaaGreatDoor
open Go Go.Proofs.YtbnpclndiichcaaGreatDoor.Eng Go.Proofs.YtbnpclndiichcaaGreatDoor.Pl
set_option linter.unusedVariables false
set_option linter.unusedSimpArgs false
set_option maxRecDepth 100000
set_option maxHeartbeats 4000000
theorem plain_TV (l : List Ty) : Eng.plainL (TV l) = true := by
  simp [Eng.plainL, TV, eTy, V.cells, Eng.isC0]
theorem plain_RV (l : List Rec) : Eng.plainL (RV l) = true := by
  simp [Eng.plainL, RV, eRec, V.cells, Eng.isC0]
/-- A row that leans on nothing, or is empty. -/
def okR (f : Bool) (l : List V) : Prop := ((!f || List.isEmpty l) && Eng.plainL l) = true
theorem tDecode (b : List UInt8) (hb : b.length ≤ 1000000) (hz : (readD b).2 = true → ZI (readD b).1) {K : Unit × Unit × Unit × ByteArray × Int × Unit → Int → List V → Bool → Bool → List V → Bool → Bool → List V → Bool → Bool → Prop}
    (h : ∀ o1 f1 o2 f2 o3 f3, okR f1 (TV (decR b).1.ty) → okR f2 (RV (decR b).1.tr) → okR f3 (RV (decR b).1.lp) → K ((), (), (), S (decR b).1.ft, (decR b).1.v, ()) (decR b).2 (TV (decR b).1.ty) o1 f1 (RV (decR b).1.tr) o2 f2 (RV (decR b).1.lp) o3 f3) : Xtzif_Decode (B8 b) K := by
  unfold Xtzif_Decode Ytzif_Decode
  unfold decR at h
  refine tRead b (by omega) (fun q => ?_) (fun q z x1 x2 x3 x4 x5 x6 x7 x8 x9 => ?_)
  · rw [if_neg (by simp)]
    rw [if_pos q] at h
    show Xzone_Right (tupZ (readD b).1) _
    refine sRight _ (hz q) ?_
    cases hr : zoneRight (readD b).1
    · rw [if_pos (show (!false) = true from rfl)]
      rw [if_neg (by rw [hr]; simp)] at h
      exact h true true true true true true rfl rfl rfl
    · rw [if_neg (by simp)]
      rw [if_pos hr] at h
      exact h true false true false true false (by unfold okR; rw [plain_TV]; rfl) (by unfold okR; rw [plain_RV]; rfl) (by unfold okR; rw [plain_RV]; rfl)
  · rw [if_pos (show (!false) = true from rfl)]
    rw [if_neg (by rw [q]; simp)] at h
    exact h true true true true true true rfl rfl rfl
theorem tRight (b : List UInt8) (hb : b.length ≤ 1000000) (hz : (readD b).2 = true → ZI (readD b).1) {K : Bool → Prop} (h : K ((decR b).2 == 0)) : Xtzif_Right (B8 b) K := by
  unfold Xtzif_Right Ytzif_Right
  refine tDecode b hb hz fun o1 f1 o2 f2 o3 f3 c1 c2 c3 => ?_
  unfold okR at c1 c2 c3
  rw [if_pos c1, if_pos c2, if_pos c3]
  exact h
end Go.Proofs.YtbnpclndiichcaaGreatDoor
end
section
set_option linter.unusedVariables false
set_option linter.unusedSimpArgs false
namespace Go.Proofs.YtbnpclndiichcaaGreatDoor
open Go Go.Proofs.YtbnpclndiichcaaGreatDoor.Eng Go.Proofs.YtbnpclndiichcaaGreatDoor.Pl
set_option linter.unusedVariables false
set_option linter.unusedSimpArgs false
set_option maxRecDepth 100000
set_option maxHeartbeats 4000000
theorem qSame12 (a b : List Rec) (hl : a.length ≤ 100000) {K : Bool → Prop} (h : K (a == b)) : Xepactref12_Same (RV a) (RV b) K := by
  unfold Xepactref12_Same Yepactref12_Same
  rw [RV_len, RV_len]
  by_cases e : a.length = b.length
  · rw [if_neg (by simp [e])]
    refine lp_ind (fun x => a.length - x.1.2.2.2.1.toNat) (fun x => ∃ j : Nat, j ≤ a.length ∧ x = ((RV a, RV b, false, (j : Int), ()), ()) ∧ a.take j = b.take j) ?_ ⟨0, by omega, rfl, rfl⟩
    rintro x ⟨j, hj, rfl, hall⟩ k hk
    unfold Lepactref12_Same_0
    simp only [decide_eq_true_eq, RV_len]
    by_cases ej : j = a.length
    · rw [if_neg (by omega)]
      rw [ej, List.take_length, e, List.take_length] at hall
      have : (a == b) = true := by rw [hall]; exact beq_self_eq_true _
      rw [this] at h; exact h
    · have h1 : j < a.length := by omega
      have h2 : j < b.length := by omega
      rw [Int.toNat_natCast, if_pos (by omega), if_pos (by omega)]
      refine asR1 h1 (asR2 h1 ?_)
      rw [if_pos (by omega)]
      refine asR1 h2 (asR2 h2 ?_)
      have e1 : w64 ((j : Int) + 1) = ((j + 1 : Nat) : Int) := by rw [w64_in (by omega) (by omega)]; omega
      simp only [e1]
      by_cases ee : a[j] = b[j]
      · rw [if_neg (by rw [ee]; simp)]
        refine hk _ ⟨j + 1, by omega, rfl, ?_⟩ ?_
        · rw [List.take_succ_eq_append_getElem h1, List.take_succ_eq_append_getElem h2, hall, ee]
        · show a.length - ((j + 1 : Nat) : Int).toNat < a.length - ((j : Nat) : Int).toNat
          omega
      · rw [if_pos (by
          simp only [Bool.not_eq_true', Bool.and_true, Bool.and_eq_false_iff, beq_eq_false_iff_ne, ne_eq]
          by_cases q : (a[j]).1 = (b[j]).1
          · exact .inr fun q2 => ee (Prod.ext q q2)
          · exact .inl q)]
        have : (a == b) = false := by
          rw [beq_eq_false_iff_ne]; intro hh; subst hh; exact ee rfl
        rw [this] at h; exact h
  · rw [if_pos (by simp; omega)]
    have : (a == b) = false := by
      rw [beq_eq_false_iff_ne]; intro hh; exact e (by rw [hh])
    rw [this] at h; exact h
theorem qSame16 (a b : Zn) (h1 : a.ty.length ≤ 100000) (h2 : a.tr.length ≤ 100000) (h3 : a.lp.length ≤ 100000) {K : Bool → Prop} (h : K (sameZ a b)) : Xepactref16_Same (tupZ a) (tupZ b) K := by
  show Xepactref16_Same (TV a.ty, RV a.tr, RV a.lp, S a.ft, a.v, ()) (TV b.ty, RV b.tr, RV b.lp, S b.ft, b.v, ()) K
  unfold Xepactref16_Same Yepactref16_Same
  dsimp only
  rw [TV_len, TV_len, RV_len, RV_len, S_toList, S_toList]
  have no : (a.ty ≠ b.ty ∨ a.tr ≠ b.tr ∨ a.ft ≠ b.ft ∨ a.v ≠ b.v) → K false := fun hn => by
    have : sameZ a b = false := by
      unfold sameZ
      simp only [Bool.and_eq_false_iff, beq_eq_false_iff_ne]
      rcases hn with hn | hn | hn | hn
      · exact .inl (.inl (.inl (.inl hn)))
      · exact .inl (.inl (.inl (.inr hn)))
      · exact .inl (.inr hn)
      · exact .inr hn
    rw [this] at h; exact h
  by_cases e1 : a.ty.length = b.ty.length
  · rw [if_neg (by simp [e1])]
    by_cases e2 : a.tr.length = b.tr.length
    · rw [if_neg (by simp [e2])]
      by_cases e3 : a.ft = b.ft
      · rw [if_neg (by simp [e3])]
        by_cases e4 : a.v = b.v
        · rw [if_neg (by simp [e4])]
          refine lp_ind (fun x => a.ty.length - x.1.2.2.2.1.toNat) (fun x => ∃ j : Nat, j ≤ a.ty.length ∧ x = (((), (), false, (j : Int), ()), (TV a.ty, RV a.tr, RV a.lp, S a.ft, a.v, ()), (TV b.ty, RV b.tr, RV b.lp, S b.ft, b.v, ()), ()) ∧ a.ty.take j = b.ty.take j) ?_ ⟨0, by omega, rfl, rfl⟩
          rintro x ⟨j, hj, rfl, hall⟩ k hk
          unfold Lepactref16_Same_0
          dsimp only
          rw [TV_len, TV_len, Int.toNat_natCast]
          by_cases ej : j = a.ty.length
          · rw [if_neg (dneg (by omega))]
            rw [ej, List.take_length, e1, List.take_length] at hall
            refine lp_ind (fun x => a.tr.length - x.1.2.2.2.1.toNat) (fun x => ∃ j : Nat, j ≤ a.tr.length ∧ x = (((), (), false, (j : Int), ()), (TV a.ty, RV a.tr, RV a.lp, S a.ft, a.v, ()), (TV b.ty, RV b.tr, RV b.lp, S b.ft, b.v, ()), ()) ∧ a.tr.take j = b.tr.take j) ?_ ⟨0, by omega, rfl, rfl⟩
            rintro x ⟨i, hi, rfl, hall2⟩ k2 hk2
            unfold Lepactref16_Same_1
            dsimp only
            rw [RV_len, RV_len, Int.toNat_natCast]
            by_cases ei : i = a.tr.length
            · rw [if_neg (dneg (by omega))]
              rw [ei, List.take_length, e2, List.take_length] at hall2
              refine qSame12 a.lp b.lp h3 ?_
              have : sameZ a b = (a.lp == b.lp) := by unfold sameZ; rw [hall, hall2, e3, e4]; simp
              rw [this] at h; exact h
            · have h1 : i < a.tr.length := by omega
              have h2 : i < b.tr.length := by omega
              rw [if_pos (decide_eq_true (by omega)), if_pos (by omega)]
              refine asR1 h1 (asR2 h1 ?_)
              rw [if_pos (by omega)]
              refine asR1 h2 (asR2 h2 ?_)
              have e1 : w64 ((i : Int) + 1) = ((i + 1 : Nat) : Int) := by rw [w64_in (by omega) (by omega)]; omega
              simp only [e1]
              by_cases ee : a.tr[i] = b.tr[i]
              · rw [if_neg (by rw [ee]; simp)]
                refine hk2 _ ⟨i + 1, by omega, rfl, ?_⟩ ?_
                · rw [List.take_succ_eq_append_getElem h1, List.take_succ_eq_append_getElem h2, hall2, ee]
                · show a.tr.length - ((i + 1 : Nat) : Int).toNat < a.tr.length - ((i : Nat) : Int).toNat
                  omega
              · rw [if_pos (by
                  simp only [Bool.not_eq_true', Bool.and_true, Bool.and_eq_false_iff, beq_eq_false_iff_ne, ne_eq]
                  by_cases q : (a.tr[i]).1 = (b.tr[i]).1
                  · exact .inr fun q2 => ee (Prod.ext q q2)
                  · exact .inl q)]
                refine no (.inr (.inl fun hh => ?_))
                have := congrArg (fun l => l[i]?) hh
                simp only [List.getElem?_eq_getElem h1, List.getElem?_eq_getElem h2] at this
                exact ee (Option.some.inj this)
          · have h1 : j < a.ty.length := by omega
            have h2 : j < b.ty.length := by omega
            rw [if_pos (decide_eq_true (by omega)), if_pos (by omega)]
            refine asT1 h1 (asT2 h1 (asT3 h1 ?_))
            rw [if_pos (by omega)]
            refine asT1 h2 (asT2 h2 (asT3 h2 ?_))
            have e1 : w64 ((j : Int) + 1) = ((j + 1 : Nat) : Int) := by rw [w64_in (by omega) (by omega)]; omega
            simp only [lt, e1, S_toList]
            by_cases ee : a.ty[j] = b.ty[j]
            · rw [if_neg (by rw [ee]; simp)]
              refine hk _ ⟨j + 1, by omega, rfl, ?_⟩ ?_
              · rw [List.take_succ_eq_append_getElem h1, List.take_succ_eq_append_getElem h2, hall, ee]
              · show a.ty.length - ((j + 1 : Nat) : Int).toNat < a.ty.length - ((j : Nat) : Int).toNat
                omega
            · have : (!((a.ty[j]).1 == (b.ty[j]).1 && ((a.ty[j]).2.1 == (b.ty[j]).2.1 && ((a.ty[j]).2.2 == (b.ty[j]).2.2 && true)))) = true := by
                rw [Bool.not_eq_true']
                cases hh : ((a.ty[j]).1 == (b.ty[j]).1 && ((a.ty[j]).2.1 == (b.ty[j]).2.1 && ((a.ty[j]).2.2 == (b.ty[j]).2.2 && true)))
                · rfl
                · exfalso
                  simp only [Bool.and_eq_true, beq_iff_eq, and_true] at hh
                  exact ee (Prod.ext hh.1 (Prod.ext hh.2.1 hh.2.2))
              rw [if_pos this]
              refine no (.inl fun hh => ?_)
              have := congrArg (fun l => l[j]?) hh
              simp only [List.getElem?_eq_getElem h1, List.getElem?_eq_getElem h2] at this
              exact ee (Option.some.inj this)
        · rw [if_pos (by simpa using e4)]; exact no (.inr (.inr (.inr e4)))
      · rw [if_pos (by simpa using e3)]; exact no (.inr (.inr (.inl e3)))
    · rw [if_pos (by simp; omega)]; exact no (.inr (.inl fun hh => e2 (by rw [hh])))
  · rw [if_pos (by simp; omega)]; exact no (.inl fun hh => e1 (by rw [hh]))
theorem okr {f : Bool} {l : List V} (h : okR f l) : ((!f || List.isEmpty l) && Eng.plainL l) = true := h
theorem B8_set' (l : List UInt8) (i : Nat) (h : i < l.length) (x : UInt8) : List.set (B8 l) i (Eng.setE (List.getD (B8 l) i Eng.V.bad) 0 [.c (.int .u8 (x.toNat : Int))]) = B8 (l.set i x) := by
  have : List.getD (B8 l) i Eng.V.bad = .c (.int .u8 (l[i].toNat : Int)) := by simp [B8, List.getD, h]
  rw [this]
  show List.set (B8 l) i (.c (.int .u8 (x.toNat : Int))) = _
  simp [B8, List.map_set]
theorem zi_enc {z : Zn} (hz : ZI z) (h : (encR z).2 = true) : (readD (encR z).1).2 = true → ZI (readD (encR z).1).1 := fun _ => by rw [enc_read h]; exact hz
theorem iz20 : ZI z20 := ⟨by decide, by decide, by decide, by decide, by decide, (fun c hc => by cases hc), (fun c hc => by cases hc), by decide⟩
theorem iy20 : ZI y20 := ⟨by decide, by decide, by decide, by decide, by decide, (fun c hc => by cases hc), (fun c hc => by cases hc), by decide⟩
theorem iw20 : ZI w20 := ⟨by decide, by decide, by decide, by decide, by decide, (fun c hc => by cases hc), (fun c hc => by cases hc), by decide⟩
theorem in0 : ZI zn0 := ⟨by decide, by decide, by decide, by decide, by decide, (fun c hc => by cases hc), (fun c hc => by cases hc), by decide⟩
theorem tsmall20 {K : Bool → Prop} (h : K true) : Xepactlaw20_small K := by
  unfold Xepactlaw20_small Yepactlaw20_small
  have L := z20_len
  have dz := enc_dec z20_ok
  have dy := enc_dec y20_ok
  have m10 := enc_more z20_ok (t := [10]) (by simp)
  have iv : (readD ((encR z20).1.set 107 33)).2 = true → ZI (readD ((encR z20).1.set 107 33)).1 := fun _ => by
    rw [v20_read]
    exact ⟨by decide, by decide, by decide, by decide, by decide, (fun c hc => by cases hc), (fun c hc => by cases hc), by decide⟩
  have z10 := zi_enc iz20 z20_ok
  have y10 := zi_enc iy20 y20_ok
  have dv := v20_dec
  have s1 : sameZ z20 z20 = true := by decide
  have s2 : sameZ y20 y20 = true := by decide
  have dm := dec_two (b := (encR z20).1 ++ [10]) (by rw [m10])
  have dn := dec_two nil_two
  have eA : B8 (encR z20).1 ++ [V.c (Value.int IntKind.u8 10)] = B8 ((encR z20).1 ++ [10]) := B8_app _ [10]
  have l1 : ¬ (((B8 (encR z20).1).length : Int) != 111) = true := by rw [B8_len, z20_len]; decide
  have l2 : ¬ (((B8 (encR y20).1).length : Int) != 54) = true := by rw [B8_len, y20_len]; decide
  have l3 : (0 : Int) ≤ 107 ∧ (107 : Int) < ((B8 (encR z20).1).length : Int) := by rw [B8_len, z20_len]; decide
  have l4 : 107 < (B8 ((encR z20).1 ++ [10])).length := by rw [B8_len, List.length_append, z20_len]; decide
  have l5 : 107 < (B8 (encR z20).1).length := by rw [B8_len, z20_len]; decide
  have es1 : List.set (B8 ((encR z20).1 ++ [10])) 107 (Eng.setE (List.getD (B8 ((encR z20).1 ++ [10])) 107 Eng.V.bad) 0 [V.c (Value.int IntKind.u8 33)]) = B8 (((encR z20).1 ++ [10]).set 107 33) := B8_set' _ 107 (by rw [List.length_append, z20_len]; decide) 33
  have es2 : List.set (B8 (encR z20).1) 107 (Eng.setE (List.getD (B8 (encR z20).1) 107 Eng.V.bad) 0 [V.c (Value.int IntKind.u8 33)]) = B8 ((encR z20).1.set 107 33) := B8_set' _ 107 (by rw [z20_len]; decide) 33
  have ec : cutL (B8 (((encR z20).1 ++ [10]).set 107 33)) 0 (B8 (encR z20).1).length = B8 ((encR z20).1.set 107 33) := by
    rw [B8_cut, B8_len, z20_len]
    have : ((((encR z20).1 ++ [10]).set 107 33).drop 0).take 111 = (encR z20).1.set 107 33 := by decide
    rw [this]
  refine tTzEncode z20 iz20 (fun _ => ?_) (fun q => by rw [z20_ok] at q; cases q)
  refine tDecode (encR z20).1 (by rw [z20_len]; decide) z10 fun o1 f1 o2 f2 o3 f3 c1 c2 c3 => ?_
  rw [if_pos (okr c1), if_pos (okr c2), if_pos (okr c3)]
  rw [dz]
  rw [if_pos rfl, if_pos (room1 _ (by rw [B8_len, z20_len]; decide)), eA]
  refine ⟨?_, ?_⟩
  · refine tDecode ((encR z20).1 ++ [10]) (by rw [List.length_append, z20_len]; decide) (fun q => by rw [m10] at q; cases q) fun o1 f1 o2 f2 o3 f3 c1 c2 c3 => ?_
    rw [if_pos (okr c1), if_pos (okr c2), if_pos (okr c3)]
    rw [dm]
    refine tDecode [] (by decide) (fun q => by rw [nil_two] at q; cases q) fun o1 f1 o2 f2 o3 f3 c1 c2 c3 => ?_
    rw [if_pos (okr c1), if_pos (okr c2), if_pos (okr c3)]
    rw [dn]
    refine tTzEncode y20 iy20 (fun _ => ?_) (fun q => by rw [y20_ok] at q; cases q)
    refine tDecode (encR y20).1 (by rw [y20_len]; decide) y10 fun o1 f1 o2 f2 o3 f3 c1 c2 c3 => ?_
    rw [if_pos (okr c1), if_pos (okr c2), if_pos (okr c3)]
    rw [dy]
    refine tTzEncode zn0 in0 (fun q => by rw [n20_no] at q; cases q) (fun _ => ?_)
    refine tTzEncode w20 iw20 (fun q => by rw [w20_no] at q; cases q) (fun _ => ?_)
    rw [if_neg l1, if_neg l2, if_pos l3, if_pos rfl]
    rw [if_pos l4]
    unfold Eng.lt
    rw [es1]
    dsimp only
    rw [ec]
    refine tDecode ((encR z20).1.set 107 33) (by rw [List.length_set, z20_len]; decide) iv fun o1 f1 o2 f2 o3 f3 c1 c2 c3 => ?_
    rw [if_pos (okr c1), if_pos (okr c2), if_pos (okr c3)]
    rw [dv]
    rw [if_pos rfl, if_pos (by rfl)]
    refine qSame16 z20 z20 (by decide) (by decide) (by decide) ?_
    rw [s1, if_pos rfl, if_pos (by rfl), if_pos (by rfl), if_pos rfl, if_pos (by rfl)]
    refine qSame16 y20 y20 (by decide) (by decide) (by decide) ?_
    rw [s2, if_pos rfl, if_pos (by rfl), if_pos (by rfl), if_pos (by rfl)]
    refine tRight ((encR z20).1.set 107 33) (by rw [List.length_set, z20_len]; decide) iv ?_
    rw [dv, if_pos (by rfl)]
    refine tRight (encR y20).1 (by rw [y20_len]; decide) y10 ?_
    rw [dy]
    exact h
  · refine tDecode ((encR z20).1 ++ [10]) (by rw [List.length_append, z20_len]; decide) (fun q => by rw [m10] at q; cases q) fun o1 f1 o2 f2 o3 f3 c1 c2 c3 => ?_
    rw [if_pos (okr c1), if_pos (okr c2), if_pos (okr c3)]
    rw [dm]
    refine tDecode [] (by decide) (fun q => by rw [nil_two] at q; cases q) fun o1 f1 o2 f2 o3 f3 c1 c2 c3 => ?_
    rw [if_pos (okr c1), if_pos (okr c2), if_pos (okr c3)]
    rw [dn]
    refine tTzEncode y20 iy20 (fun _ => ?_) (fun q => by rw [y20_ok] at q; cases q)
    refine tDecode (encR y20).1 (by rw [y20_len]; decide) y10 fun o1 f1 o2 f2 o3 f3 c1 c2 c3 => ?_
    rw [if_pos (okr c1), if_pos (okr c2), if_pos (okr c3)]
    rw [dy]
    refine tTzEncode zn0 in0 (fun q => by rw [n20_no] at q; cases q) (fun _ => ?_)
    refine tTzEncode w20 iw20 (fun q => by rw [w20_no] at q; cases q) (fun _ => ?_)
    rw [if_neg l1, if_neg l2, if_pos l3, if_pos rfl]
    rw [if_pos l5, es2]
    refine tDecode ((encR z20).1.set 107 33) (by rw [List.length_set, z20_len]; decide) iv fun o1 f1 o2 f2 o3 f3 c1 c2 c3 => ?_
    rw [if_pos (okr c1), if_pos (okr c2), if_pos (okr c3)]
    rw [dv]
    rw [if_pos rfl, if_pos (by rfl)]
    refine qSame16 z20 z20 (by decide) (by decide) (by decide) ?_
    rw [s1, if_pos rfl, if_pos (by rfl), if_pos (by rfl), if_pos rfl, if_pos (by rfl)]
    refine qSame16 y20 y20 (by decide) (by decide) (by decide) ?_
    rw [s2, if_pos rfl, if_pos (by rfl), if_pos (by rfl), if_pos (by rfl)]
    refine tRight ((encR z20).1.set 107 33) (by rw [List.length_set, z20_len]; decide) iv ?_
    rw [dv, if_pos (by rfl)]
    refine tRight (encR y20).1 (by rw [y20_len]; decide) y10 ?_
    rw [dy]
    exact h
end Go.Proofs.YtbnpclndiichcaaGreatDoor
end
section
set_option linter.unusedVariables false
set_option linter.unusedSimpArgs false
namespace Go.Proofs.YtbnpclndiichcaaGreatDoor
open Go Go.Proofs.YtbnpclndiichcaaGreatDoor.Eng Go.Proofs.YtbnpclndiichcaaGreatDoor.Pl
set_option linter.unusedVariables false
set_option linter.unusedSimpArgs false
set_option maxRecDepth 100000
set_option maxHeartbeats 4000000
theorem sameZ_me (z : Zn) : sameZ z z = true := by unfold sameZ; simp
end Go.Proofs.YtbnpclndiichcaaGreatDoor
end
section
set_option linter.unusedVariables false
set_option linter.unusedSimpArgs false
namespace Go.Proofs.YtbnpclndiichcaaGreatDoor
open Go Go.Proofs.YtbnpclndiichcaaGreatDoor.Eng Go.Proofs.YtbnpclndiichcaaGreatDoor.Pl
set_option linter.unusedVariables false
set_option linter.unusedSimpArgs false
set_option maxRecDepth 100000
set_option maxHeartbeats 4000000
theorem same_eq {a b : Zn} (h : sameZ a b = true) : a = b := by
  unfold sameZ at h
  simp only [Bool.and_eq_true, beq_iff_eq] at h
  obtain ⟨⟨⟨⟨h1, h2⟩, h3⟩, h4⟩, h5⟩ := h
  cases a; cases b
  simp only at h1 h2 h3 h4 h5
  subst h1 h2 h3 h4 h5
  rfl
theorem lTzifApart (z : Zn) (hg : ZG z) (y : Zn) (hy : ZG y) {K : Bool → Prop} (h : K true) : Xepactlaw20_TzifApart (tupZ z) (tupZ y) K := by
  unfold Xepactlaw20_TzifApart Yepactlaw20_TzifApart
  refine tsmall20 (sFew z hg.tl (fun hf => sFew y hy.tl (fun hf' => ?_) ?_) (sFew y hy.tl (fun hf' => ?_) ?_))
  · have hz := hg.zi hf
    have iy := hy.zi hf'
    rw [if_neg (by simp), if_neg (by simp)]
    refine tTzEncode z hz (fun e => ?_) (fun e => ?_)
    · refine tTzEncode y iy (fun e2 => ?_) (fun e2 => ?_)
      · rw [if_pos rfl, if_neg (by simp), if_neg (by simp)]
        have key : K ((ByteArray.toList (Eng.packB (B8 (encR z).1)) == ByteArray.toList (Eng.packB (B8 (encR y).1))) == sameZ z y) := by
          rw [B8_pack, B8_pack, S_toList, S_toList]
          have : ((encR z).1 == (encR y).1) = sameZ z y := by
            rw [Bool.eq_iff_iff, beq_iff_eq]
            constructor
            · intro q
              have d1 := enc_dec e
              have d2 := enc_dec e2
              rw [q, d2] at d1
              have : y = z := congrArg Prod.fst d1
              rw [this, sameZ_me]
            · intro q; rw [same_eq q]
          rw [this, beq_self_eq_true]; exact h
        have T1 : ∀ (P : Prop), P → (if Eng.allU8 (B8 (encR z).1) = true then P else False) := fun P hp => by rw [if_pos (B8_all _)]; exact hp
        have T2 : ∀ (P : Prop), P → (if Eng.allU8 (B8 (encR y).1) = true then P else False) := fun P hp => by rw [if_pos (B8_all _)]; exact hp
        have zs : ∀ {Q : Bool → Prop}, Q (sameZ z y) → Xzone_Same (tupZ z) (tupZ y) Q := fun hQ => zSame z y hz iy hQ
        refine ⟨T1 _ ⟨T2 _ (zs ?_), zs (T2 _ ?_)⟩, ⟨T2 _ ⟨T1 _ (zs ?_), zs (T1 _ ?_)⟩, zs ⟨T1 _ (T2 _ ?_), T2 _ (T1 _ ?_)⟩⟩⟩
        all_goals exact key
      · rw [if_pos rfl, if_neg (by simp), if_pos (show (!false) = true from rfl)]
        exact ⟨⟨h, h⟩, ⟨⟨h, h⟩, ⟨h, h⟩⟩⟩
    · refine tTzEncode y iy (fun e2 => ?_) (fun e2 => ?_)
      · rw [if_pos rfl, if_pos (show (!false) = true from rfl)]
        exact ⟨⟨h, h⟩, ⟨⟨h, h⟩, ⟨h, h⟩⟩⟩
      · rw [if_pos rfl, if_pos (show (!false) = true from rfl)]
        exact ⟨⟨h, h⟩, ⟨⟨h, h⟩, ⟨h, h⟩⟩⟩
  · rw [if_neg (by simp), if_pos (show (!false) = true from rfl)]; exact h
  · rw [if_pos (show (!false) = true from rfl)]; exact h
  · rw [if_pos (show (!false) = true from rfl)]; exact h
end Go.Proofs.YtbnpclndiichcaaGreatDoor
end
section
set_option linter.unusedVariables false
set_option linter.unusedSimpArgs false
namespace Go.Proofs.YtbnpclndiichcaaGreatDoor
open Go Go.Proofs.YtbnpclndiichcaaGreatDoor.Eng Go.Proofs.YtbnpclndiichcaaGreatDoor.Pl
set_option linter.unusedVariables false
set_option linter.unusedSimpArgs false
theorem wfI {n : Int} (h : (Lit.int .i64 n).wf = true) : i64r n := by
  simp [Lit.wf, IntKind.min, IntKind.max, IntKind.bits, IntKind.signed] at h
  unfold i64r; omega
theorem zone_of (tys : List (Int × Bool × ByteArray × Unit)) (trs lps : List (Int × Int × Unit)) (ft : ByteArray) (v : Int) (h1 : tys.length ≤ 9223372036854775807)
    (h2 : ∀ c ∈ trs, (Lit.int .i64 c.1).wf = true ∧ (Lit.int .i64 c.2.1).wf = true ∧ True) (h3 : ∀ c ∈ lps, (Lit.int .i64 c.1).wf = true ∧ (Lit.int .i64 c.2.1).wf = true ∧ True) (h4 : (Lit.int .i64 v).wf = true) :
    ∃ z, ZG z ∧ ((tys.map fun x => V.agg [.c (.int .i64 x.1), .c (.bool x.2.1), .c (.string x.2.2.1)], trs.map fun x => V.agg [.c (.int .i64 x.1), .c (.int .i64 x.2.1)], lps.map fun x => V.agg [.c (.int .i64 x.1), .c (.int .i64 x.2.1)], ft, v, ()) : List V × List V × List V × ByteArray × Int × Unit) = tupZ z := by
  have rcI : ∀ l : List (Int × Int × Unit), (∀ c ∈ l, (Lit.int .i64 c.1).wf = true ∧ (Lit.int .i64 c.2.1).wf = true ∧ True) → recI (l.map fun c => (c.1, c.2.1)) := fun l hl c hc => by
    obtain ⟨d, hd, rfl⟩ := List.mem_map.1 hc
    exact ⟨wfI (hl d hd).1, wfI (hl d hd).2.1⟩
  refine ⟨⟨tys.map fun t => (t.1, t.2.1, t.2.2.1.data.toList), trs.map fun c => (c.1, c.2.1), lps.map fun c => (c.1, c.2.1), ft.data.toList, v⟩, ⟨rcI lps h3, rcI trs h2, wfI h4, by simpa using h1⟩, ?_⟩
  unfold tupZ
  simp only [List.map_map]
  rfl
abbrev akZ : AK := (.st (.cons (.sl (.st (.cons (.int .i64) (.cons .bool (.cons .str .nil))))) (.cons (.sl (.st (.cons (.int .i64) (.cons (.int .i64) .nil)))) (.cons (.sl (.st (.cons (.int .i64) (.cons (.int .i64) .nil)))) (.cons .str (.cons (.int .i64) .nil))))))
theorem zone_in (a : akZ.T) (h : akZ.good a) : ∃ z, ZG z ∧ (akZ.DV a : List V × List V × List V × ByteArray × Int × Unit) = tupZ z := by
  obtain ⟨tys, trs, lps, ft, v, u⟩ := a
  obtain ⟨h1, h2, h3, h4, h5, h6⟩ := h
  exact zone_of tys trs lps ft v h1.1 h2.2 h3.2 h5
end Go.Proofs.YtbnpclndiichcaaGreatDoor
end
section
set_option linter.unusedVariables false
set_option linter.unusedSimpArgs false
namespace Go.Proofs.YtbnpclndiichcaaGreatDoor
open Go Go.Proofs.YtbnpclndiichcaaGreatDoor.Eng Go.Proofs.YtbnpclndiichcaaGreatDoor.Pl
theorem pureTzifApart : PureTzifApart := by
  intro a0 h0 a1 h1
  obtain ⟨z, hz, e⟩ := zone_in a0 h0
  obtain ⟨y, hy, e'⟩ := zone_in a1 h1
  rw [show (akTzifApart0.DV a0 : List V × List V × List V × ByteArray × Int × Unit) = tupZ z from e, show (akTzifApart1.DV a1 : List V × List V × List V × ByteArray × Int × Unit) = tupZ y from e']
  exact lTzifApart z hz y hy rfl
end Go.Proofs.YtbnpclndiichcaaGreatDoor
end
