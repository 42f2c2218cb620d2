/- What the functions come to in plain data, with proofs, and what that answers. -/
import Derived.Test.YtbnpclndiichcaaGreatDoorJTzifShort2
section
set_option linter.unusedVariables false
set_option linter.unusedSimpArgs false
namespace Go.Proofs.YtbnpclndiichcaaGreatDoor
open Go Go.Proofs.YtbnpclndiichcaaGreatDoor.Eng Go.Proofs.YtbnpclndiichcaaGreatDoor.Pl
set_option linter.unusedVariables false
set_option linter.unusedSimpArgs false
set_option maxRecDepth 100000
set_option maxHeartbeats 4000000
theorem qSame12 (a b : List Rec) (hl : a.length ≤ 100000) {K : Bool → Prop} (h : K (a == b)) : Xepactref12_Same (RV a) (RV b) K := by
  unfold Xepactref12_Same Yepactref12_Same
  rw [RV_len, RV_len]
  by_cases e : a.length = b.length
  · rw [if_neg (by simp [e])]
    refine lp_ind (fun x => a.length - x.1.2.2.2.1.toNat) (fun x => ∃ j : Nat, j ≤ a.length ∧ x = ((RV a, RV b, false, (j : Int), ()), ()) ∧ a.take j = b.take j) ?_ ⟨0, by omega, rfl, rfl⟩
    rintro x ⟨j, hj, rfl, hall⟩ k hk
    unfold Lepactref12_Same_0
    simp only [decide_eq_true_eq, RV_len]
    by_cases ej : j = a.length
    · rw [if_neg (by omega)]
      rw [ej, List.take_length, e, List.take_length] at hall
      have : (a == b) = true := by rw [hall]; exact beq_self_eq_true _
      rw [this] at h; exact h
    · have h1 : j < a.length := by omega
      have h2 : j < b.length := by omega
      rw [Int.toNat_natCast, if_pos (by omega), if_pos (by omega)]
      refine asR1 h1 (asR2 h1 ?_)
      rw [if_pos (by omega)]
      refine asR1 h2 (asR2 h2 ?_)
      have e1 : w64 ((j : Int) + 1) = ((j + 1 : Nat) : Int) := by rw [w64_in (by omega) (by omega)]; omega
      simp only [e1]
      by_cases ee : a[j] = b[j]
      · rw [if_neg (by rw [ee]; simp)]
        refine hk _ ⟨j + 1, by omega, rfl, ?_⟩ ?_
        · rw [List.take_succ_eq_append_getElem h1, List.take_succ_eq_append_getElem h2, hall, ee]
        · show a.length - ((j + 1 : Nat) : Int).toNat < a.length - ((j : Nat) : Int).toNat
          omega
      · rw [if_pos (by
          simp only [Bool.not_eq_true', Bool.and_true, Bool.and_eq_false_iff, beq_eq_false_iff_ne, ne_eq]
          by_cases q : (a[j]).1 = (b[j]).1
          · exact .inr fun q2 => ee (Prod.ext q q2)
          · exact .inl q)]
        have : (a == b) = false := by
          rw [beq_eq_false_iff_ne]; intro hh; subst hh; exact ee rfl
        rw [this] at h; exact h
  · rw [if_pos (by simp; omega)]
    have : (a == b) = false := by
      rw [beq_eq_false_iff_ne]; intro hh; exact e (by rw [hh])
    rw [this] at h; exact h
theorem qSame16 (a b : Zn) (h1 : a.ty.length ≤ 100000) (h2 : a.tr.length ≤ 100000) (h3 : a.lp.length ≤ 100000) {K : Bool → Prop} (h : K (sameZ a b)) : Xepactref16_Same (tupZ a) (tupZ b) K := by
  show Xepactref16_Same (TV a.ty, RV a.tr, RV a.lp, S a.ft, a.v, ()) (TV b.ty, RV b.tr, RV b.lp, S b.ft, b.v, ()) K
  unfold Xepactref16_Same Yepactref16_Same
  dsimp only
  rw [TV_len, TV_len, RV_len, RV_len, S_toList, S_toList]
  have no : (a.ty ≠ b.ty ∨ a.tr ≠ b.tr ∨ a.ft ≠ b.ft ∨ a.v ≠ b.v) → K false := fun hn => by
    have : sameZ a b = false := by
      unfold sameZ
      simp only [Bool.and_eq_false_iff, beq_eq_false_iff_ne]
      rcases hn with hn | hn | hn | hn
      · exact .inl (.inl (.inl (.inl hn)))
      · exact .inl (.inl (.inl (.inr hn)))
      · exact .inl (.inr hn)
      · exact .inr hn
    rw [this] at h; exact h
  by_cases e1 : a.ty.length = b.ty.length
  · rw [if_neg (by simp [e1])]
    by_cases e2 : a.tr.length = b.tr.length
    · rw [if_neg (by simp [e2])]
      by_cases e3 : a.ft = b.ft
      · rw [if_neg (by simp [e3])]
        by_cases e4 : a.v = b.v
        · rw [if_neg (by simp [e4])]
          refine lp_ind (fun x => a.ty.length - x.1.2.2.2.1.toNat) (fun x => ∃ j : Nat, j ≤ a.ty.length ∧ x = (((), (), false, (j : Int), ()), (TV a.ty, RV a.tr, RV a.lp, S a.ft, a.v, ()), (TV b.ty, RV b.tr, RV b.lp, S b.ft, b.v, ()), ()) ∧ a.ty.take j = b.ty.take j) ?_ ⟨0, by omega, rfl, rfl⟩
          rintro x ⟨j, hj, rfl, hall⟩ k hk
          unfold Lepactref16_Same_0
          dsimp only
          rw [TV_len, TV_len, Int.toNat_natCast]
          by_cases ej : j = a.ty.length
          · rw [if_neg (dneg (by omega))]
            rw [ej, List.take_length, e1, List.take_length] at hall
            refine lp_ind (fun x => a.tr.length - x.1.2.2.2.1.toNat) (fun x => ∃ j : Nat, j ≤ a.tr.length ∧ x = (((), (), false, (j : Int), ()), (TV a.ty, RV a.tr, RV a.lp, S a.ft, a.v, ()), (TV b.ty, RV b.tr, RV b.lp, S b.ft, b.v, ()), ()) ∧ a.tr.take j = b.tr.take j) ?_ ⟨0, by omega, rfl, rfl⟩
            rintro x ⟨i, hi, rfl, hall2⟩ k2 hk2
            unfold Lepactref16_Same_1
            dsimp only
            rw [RV_len, RV_len, Int.toNat_natCast]
            by_cases ei : i = a.tr.length
            · rw [if_neg (dneg (by omega))]
              rw [ei, List.take_length, e2, List.take_length] at hall2
              refine qSame12 a.lp b.lp h3 ?_
              have : sameZ a b = (a.lp == b.lp) := by unfold sameZ; rw [hall, hall2, e3, e4]; simp
              rw [this] at h; exact h
            · have h1 : i < a.tr.length := by omega
              have h2 : i < b.tr.length := by omega
              rw [if_pos (decide_eq_true (by omega)), if_pos (by omega)]
              refine asR1 h1 (asR2 h1 ?_)
              rw [if_pos (by omega)]
              refine asR1 h2 (asR2 h2 ?_)
              have e1 : w64 ((i : Int) + 1) = ((i + 1 : Nat) : Int) := by rw [w64_in (by omega) (by omega)]; omega
              simp only [e1]
              by_cases ee : a.tr[i] = b.tr[i]
              · rw [if_neg (by rw [ee]; simp)]
                refine hk2 _ ⟨i + 1, by omega, rfl, ?_⟩ ?_
                · rw [List.take_succ_eq_append_getElem h1, List.take_succ_eq_append_getElem h2, hall2, ee]
                · show a.tr.length - ((i + 1 : Nat) : Int).toNat < a.tr.length - ((i : Nat) : Int).toNat
                  omega
              · rw [if_pos (by
                  simp only [Bool.not_eq_true', Bool.and_true, Bool.and_eq_false_iff, beq_eq_false_iff_ne, ne_eq]
                  by_cases q : (a.tr[i]).1 = (b.tr[i]).1
                  · exact .inr fun q2 => ee (Prod.ext q q2)
                  · exact .inl q)]
                refine no (.inr (.inl fun hh => ?_))
                have := congrArg (fun l => l[i]?) hh
                simp only [List.getElem?_eq_getElem h1, List.getElem?_eq_getElem h2] at this
                exact ee (Option.some.inj this)
          · have h1 : j < a.ty.length := by omega
            have h2 : j < b.ty.length := by omega
            rw [if_pos (decide_eq_true (by omega)), if_pos (by omega)]
            refine asT1 h1 (asT2 h1 (asT3 h1 ?_))
            rw [if_pos (by omega)]
            refine asT1 h2 (asT2 h2 (asT3 h2 ?_))
            have e1 : w64 ((j : Int) + 1) = ((j + 1 : Nat) : Int) := by rw [w64_in (by omega) (by omega)]; omega
            simp only [lt, e1, S_toList]
            by_cases ee : a.ty[j] = b.ty[j]
            · rw [if_neg (by rw [ee]; simp)]
              refine hk _ ⟨j + 1, by omega, rfl, ?_⟩ ?_
              · rw [List.take_succ_eq_append_getElem h1, List.take_succ_eq_append_getElem h2, hall, ee]
              · show a.ty.length - ((j + 1 : Nat) : Int).toNat < a.ty.length - ((j : Nat) : Int).toNat
                omega
            · have : (!((a.ty[j]).1 == (b.ty[j]).1 && ((a.ty[j]).2.1 == (b.ty[j]).2.1 && ((a.ty[j]).2.2 == (b.ty[j]).2.2 && true)))) = true := by
                rw [Bool.not_eq_true']
                cases hh : ((a.ty[j]).1 == (b.ty[j]).1 && ((a.ty[j]).2.1 == (b.ty[j]).2.1 && ((a.ty[j]).2.2 == (b.ty[j]).2.2 && true)))
                · rfl
                · exfalso
                  simp only [Bool.and_eq_true, beq_iff_eq, and_true] at hh
                  exact ee (Prod.ext hh.1 (Prod.ext hh.2.1 hh.2.2))
              rw [if_pos this]
              refine no (.inl fun hh => ?_)
              have := congrArg (fun l => l[j]?) hh
              simp only [List.getElem?_eq_getElem h1, List.getElem?_eq_getElem h2] at this
              exact ee (Option.some.inj this)
        · rw [if_pos (by simpa using e4)]; exact no (.inr (.inr (.inr e4)))
      · rw [if_pos (by simpa using e3)]; exact no (.inr (.inr (.inl e3)))
    · rw [if_pos (by simp; omega)]; exact no (.inr (.inl fun hh => e2 (by rw [hh])))
  · rw [if_pos (by simp; omega)]; exact no (.inl fun hh => e1 (by rw [hh]))
theorem okr {f : Bool} {l : List V} (h : okR f l) : ((!f || List.isEmpty l) && Eng.plainL l) = true := h
theorem B8_set' (l : List UInt8) (i : Nat) (h : i < l.length) (x : UInt8) : List.set (B8 l) i (Eng.setE (List.getD (B8 l) i Eng.V.bad) 0 [.c (.int .u8 (x.toNat : Int))]) = B8 (l.set i x) := by
  have : List.getD (B8 l) i Eng.V.bad = .c (.int .u8 (l[i].toNat : Int)) := by simp [B8, List.getD, h]
  rw [this]
  show List.set (B8 l) i (.c (.int .u8 (x.toNat : Int))) = _
  simp [B8, List.map_set]
theorem enc_len_le (z : Zn) (hz : ZI z) : (encR z).1.length ≤ 200000 := by
  unfold encR
  split
  · split
    · rw [part_len]; have := blockB_le z hz 4 (.inl rfl); omega
    · simp only [List.length_append, headE_len, List.length_replicate, part_len, List.length_cons, List.length_nil]
      have := blockB_le z hz 8 (.inr rfl); have := hz.ft; omega
  · simp
theorem zi_enc {z : Zn} (hz : ZI z) (h : (encR z).2 = true) : (readD (encR z).1).2 = true → ZI (readD (encR z).1).1 := fun _ => by rw [enc_read h]; exact hz
theorem iz20 : ZI z20 := ⟨by decide, by decide, by decide, by decide, by decide, (fun c hc => by cases hc), (fun c hc => by cases hc), by decide⟩
theorem iy20 : ZI y20 := ⟨by decide, by decide, by decide, by decide, by decide, (fun c hc => by cases hc), (fun c hc => by cases hc), by decide⟩
theorem iw20 : ZI w20 := ⟨by decide, by decide, by decide, by decide, by decide, (fun c hc => by cases hc), (fun c hc => by cases hc), by decide⟩
theorem in0 : ZI zn0 := ⟨by decide, by decide, by decide, by decide, by decide, (fun c hc => by cases hc), (fun c hc => by cases hc), by decide⟩
theorem tsmall20 {K : Bool → Prop} (h : K true) : Xepactlaw20_small K := by
  unfold Xepactlaw20_small Yepactlaw20_small
  have L := z20_len
  have dz := enc_dec z20_ok
  have dy := enc_dec y20_ok
  have m10 := enc_more z20_ok (t := [10]) (by simp)
  have iv : (readD ((encR z20).1.set 107 33)).2 = true → ZI (readD ((encR z20).1.set 107 33)).1 := fun _ => by
    rw [v20_read]
    exact ⟨by decide, by decide, by decide, by decide, by decide, (fun c hc => by cases hc), (fun c hc => by cases hc), by decide⟩
  have z10 := zi_enc iz20 z20_ok
  have y10 := zi_enc iy20 y20_ok
  have dv := v20_dec
  have s1 : sameZ z20 z20 = true := by decide
  have s2 : sameZ y20 y20 = true := by decide
  have dm := dec_two (b := (encR z20).1 ++ [10]) (by rw [m10])
  have dn := dec_two nil_two
  have eA : B8 (encR z20).1 ++ [V.c (Value.int IntKind.u8 10)] = B8 ((encR z20).1 ++ [10]) := B8_app _ [10]
  have l1 : ¬ (((B8 (encR z20).1).length : Int) != 111) = true := by rw [B8_len, z20_len]; decide
  have l2 : ¬ (((B8 (encR y20).1).length : Int) != 54) = true := by rw [B8_len, y20_len]; decide
  have l3 : (0 : Int) ≤ 107 ∧ (107 : Int) < ((B8 (encR z20).1).length : Int) := by rw [B8_len, z20_len]; decide
  have l4 : 107 < (B8 ((encR z20).1 ++ [10])).length := by rw [B8_len, List.length_append, z20_len]; decide
  have l5 : 107 < (B8 (encR z20).1).length := by rw [B8_len, z20_len]; decide
  have es1 : List.set (B8 ((encR z20).1 ++ [10])) 107 (Eng.setE (List.getD (B8 ((encR z20).1 ++ [10])) 107 Eng.V.bad) 0 [V.c (Value.int IntKind.u8 33)]) = B8 (((encR z20).1 ++ [10]).set 107 33) := B8_set' _ 107 (by rw [List.length_append, z20_len]; decide) 33
  have es2 : List.set (B8 (encR z20).1) 107 (Eng.setE (List.getD (B8 (encR z20).1) 107 Eng.V.bad) 0 [V.c (Value.int IntKind.u8 33)]) = B8 ((encR z20).1.set 107 33) := B8_set' _ 107 (by rw [z20_len]; decide) 33
  have ec : cutL (B8 (((encR z20).1 ++ [10]).set 107 33)) 0 (B8 (encR z20).1).length = B8 ((encR z20).1.set 107 33) := by
    rw [B8_cut, B8_len, z20_len]
    have : ((((encR z20).1 ++ [10]).set 107 33).drop 0).take 111 = (encR z20).1.set 107 33 := by decide
    rw [this]
  refine tTzEncode z20 iz20 (fun _ => ?_) (fun q => by rw [z20_ok] at q; cases q)
  refine tDecode (encR z20).1 (by rw [z20_len]; decide) z10 fun o1 f1 o2 f2 o3 f3 c1 c2 c3 => ?_
  rw [if_pos (okr c1), if_pos (okr c2), if_pos (okr c3)]
  rw [dz]
  rw [if_pos rfl, if_pos (room1 _ (by rw [B8_len, z20_len]; decide)), eA]
  refine ⟨?_, ?_⟩
  · refine tDecode ((encR z20).1 ++ [10]) (by rw [List.length_append, z20_len]; decide) (fun q => by rw [m10] at q; cases q) fun o1 f1 o2 f2 o3 f3 c1 c2 c3 => ?_
    rw [if_pos (okr c1), if_pos (okr c2), if_pos (okr c3)]
    rw [dm]
    refine tDecode [] (by decide) (fun q => by rw [nil_two] at q; cases q) fun o1 f1 o2 f2 o3 f3 c1 c2 c3 => ?_
    rw [if_pos (okr c1), if_pos (okr c2), if_pos (okr c3)]
    rw [dn]
    refine tTzEncode y20 iy20 (fun _ => ?_) (fun q => by rw [y20_ok] at q; cases q)
    refine tDecode (encR y20).1 (by rw [y20_len]; decide) y10 fun o1 f1 o2 f2 o3 f3 c1 c2 c3 => ?_
    rw [if_pos (okr c1), if_pos (okr c2), if_pos (okr c3)]
    rw [dy]
    refine tTzEncode zn0 in0 (fun q => by rw [n20_no] at q; cases q) (fun _ => ?_)
    refine tTzEncode w20 iw20 (fun q => by rw [w20_no] at q; cases q) (fun _ => ?_)
    rw [if_neg l1, if_neg l2, if_pos l3, if_pos rfl]
    rw [if_pos l4]
    unfold Eng.lt
    rw [es1]
    dsimp only
    rw [ec]
    refine tDecode ((encR z20).1.set 107 33) (by rw [List.length_set, z20_len]; decide) iv fun o1 f1 o2 f2 o3 f3 c1 c2 c3 => ?_
    rw [if_pos (okr c1), if_pos (okr c2), if_pos (okr c3)]
    rw [dv]
    rw [if_pos rfl, if_pos (by rfl)]
    refine qSame16 z20 z20 (by decide) (by decide) (by decide) ?_
    rw [s1, if_pos rfl, if_pos (by rfl), if_pos (by rfl), if_pos rfl, if_pos (by rfl)]
    refine qSame16 y20 y20 (by decide) (by decide) (by decide) ?_
    rw [s2, if_pos rfl, if_pos (by rfl), if_pos (by rfl), if_pos (by rfl)]
    refine tRight ((encR z20).1.set 107 33) (by rw [List.length_set, z20_len]; decide) iv ?_
    rw [dv, if_pos (by rfl)]
    refine tRight (encR y20).1 (by rw [y20_len]; decide) y10 ?_
    rw [dy]
    exact h
  · refine tDecode ((encR z20).1 ++ [10]) (by rw [List.length_append, z20_len]; decide) (fun q => by rw [m10] at q; cases q) fun o1 f1 o2 f2 o3 f3 c1 c2 c3 => ?_
    rw [if_pos (okr c1), if_pos (okr c2), if_pos (okr c3)]
    rw [dm]
    refine tDecode [] (by decide) (fun q => by rw [nil_two] at q; cases q) fun o1 f1 o2 f2 o3 f3 c1 c2 c3 => ?_
    rw [if_pos (okr c1), if_pos (okr c2), if_pos (okr c3)]
    rw [dn]
    refine tTzEncode y20 iy20 (fun _ => ?_) (fun q => by rw [y20_ok] at q; cases q)
    refine tDecode (encR y20).1 (by rw [y20_len]; decide) y10 fun o1 f1 o2 f2 o3 f3 c1 c2 c3 => ?_
    rw [if_pos (okr c1), if_pos (okr c2), if_pos (okr c3)]
    rw [dy]
    refine tTzEncode zn0 in0 (fun q => by rw [n20_no] at q; cases q) (fun _ => ?_)
    refine tTzEncode w20 iw20 (fun q => by rw [w20_no] at q; cases q) (fun _ => ?_)
    rw [if_neg l1, if_neg l2, if_pos l3, if_pos rfl]
    rw [if_pos l5, es2]
    refine tDecode ((encR z20).1.set 107 33) (by rw [List.length_set, z20_len]; decide) iv fun o1 f1 o2 f2 o3 f3 c1 c2 c3 => ?_
    rw [if_pos (okr c1), if_pos (okr c2), if_pos (okr c3)]
    rw [dv]
    rw [if_pos rfl, if_pos (by rfl)]
    refine qSame16 z20 z20 (by decide) (by decide) (by decide) ?_
    rw [s1, if_pos rfl, if_pos (by rfl), if_pos (by rfl), if_pos rfl, if_pos (by rfl)]
    refine qSame16 y20 y20 (by decide) (by decide) (by decide) ?_
    rw [s2, if_pos rfl, if_pos (by rfl), if_pos (by rfl), if_pos (by rfl)]
    refine tRight ((encR z20).1.set 107 33) (by rw [List.length_set, z20_len]; decide) iv ?_
    rw [dv, if_pos (by rfl)]
    refine tRight (encR y20).1 (by rw [y20_len]; decide) y10 ?_
    rw [dy]
    exact h
end Go.Proofs.YtbnpclndiichcaaGreatDoor
end
section
set_option linter.unusedVariables false
set_option linter.unusedSimpArgs false
namespace Go.Proofs.YtbnpclndiichcaaGreatDoor
open Go Go.Proofs.YtbnpclndiichcaaGreatDoor.Eng Go.Proofs.YtbnpclndiichcaaGreatDoor.Pl
set_option linter.unusedVariables false
set_option linter.unusedSimpArgs false
set_option maxRecDepth 100000
set_option maxHeartbeats 4000000
theorem lTzifShort (z : Zn) (hg : ZG z) (n : Int) (more : List UInt8) {K : Bool → Prop} (h : K true) : Xepactlaw20_TzifShort (tupZ z) n (B8 more) K := by
  unfold Xepactlaw20_TzifShort Yepactlaw20_TzifShort
  refine tsmall20 (sFew z hg.tl (fun hf => ?_) ?_)
  · have hz := hg.zi hf
    have hlen := enc_len_le z hz
    rw [if_neg (by simp), B8_len]
    by_cases hm : (more.length : Int) > 100
    · rw [if_pos (decide_eq_true hm)]; exact h
    rw [if_neg (dneg hm)]
    refine tTzEncode z hz (fun e => ?_) (fun e => ?_)
    · rw [if_neg (by simp), B8_len]
      by_cases n0 : n < 0
      · rw [if_pos (decide_eq_true n0)]; exact h
      rw [if_neg (dneg n0)]
      by_cases n1 : n ≥ ((encR z).1.length : Int)
      · rw [if_pos (decide_eq_true n1)]; exact h
      rw [if_neg (dneg n1), if_pos (by omega), if_pos (by omega), B8_cut, List.drop_zero, Nat.sub_zero]
      have es := enc_short e n.toNat (by omega)
      have er := two_dec (b := (encR z).1.take n.toNat) (by rw [es])
      refine tDecode ((encR z).1.take n.toNat) (by rw [List.length_take]; omega) (fun q => by rw [er] at q; cases q) fun o1 f1 o2 f2 o3 f3 c1 c2 c3 => ?_
      rw [if_pos (okr c1), if_pos (okr c2), if_pos (okr c3), es, List.nil_append, B8_app, if_pos (room1 _ (by omega)), B8_len, if_pos (room1 _ (by omega))]
      have hzm : (readD ((encR z).1 ++ more)).2 = true → ZI (readD ((encR z).1 ++ more)).1 := fun q => by
        by_cases m0 : more = []
        · subst m0; rw [List.append_nil] at q ⊢; exact zi_enc hz e q
        · rw [enc_more e m0] at q; cases q
      refine tDecode ((encR z).1 ++ more) (by rw [List.length_append]; omega) hzm fun o1 f1 o2 f2 o3 f3 c1 c2 c3 => ?_
      rw [if_pos (okr c1), if_pos (okr c2), if_pos (okr c3), if_pos rfl, if_pos (by rfl)]
      by_cases m0 : more = []
      · subst m0; rw [List.append_nil, enc_dec e]; exact h
      · rw [dec_two (b := (encR z).1 ++ more) (by rw [enc_more e m0])]
        have : ((more.length : Int) == 0) = false := by
          rw [Bool.eq_false_iff]; intro w
          exact m0 (List.eq_nil_of_length_eq_zero (by have := eq_of_beq w; omega))
        rw [this]; exact h
    · rw [if_pos (show (!false) = true from rfl)]; exact h
  · rw [if_pos (show (!false) = true from rfl)]; exact h
end Go.Proofs.YtbnpclndiichcaaGreatDoor
end
section
set_option linter.unusedVariables false
set_option linter.unusedSimpArgs false
namespace Go.Proofs.YtbnpclndiichcaaGreatDoor
open Go Go.Proofs.YtbnpclndiichcaaGreatDoor.Eng Go.Proofs.YtbnpclndiichcaaGreatDoor.Pl
set_option linter.unusedVariables false
set_option linter.unusedSimpArgs false
set_option maxRecDepth 100000
set_option maxHeartbeats 4000000
theorem b8_of (a : List Int) (h : ∀ x ∈ a, (Lit.int .u8 x).wf = true) : ∃ l : List UInt8, (a.map fun x => V.c (.int .u8 x)) = B8 l := by
  refine ⟨a.map fun x => UInt8.ofNat x.toNat, ?_⟩
  unfold B8
  rw [List.map_map]
  refine List.map_congr_left fun x hx => ?_
  have := h x hx
  simp [Lit.wf, IntKind.min, IntKind.max, IntKind.bits, IntKind.signed] at this
  have e : ((UInt8.ofNat x.toNat).toNat : Int) = x := by
    rw [UInt8.toNat_ofNat', Nat.mod_eq_of_lt (by omega)]; omega
  simp only [Function.comp_apply]
  rw [e]
end Go.Proofs.YtbnpclndiichcaaGreatDoor
end
section
set_option linter.unusedVariables false
set_option linter.unusedSimpArgs false
namespace Go.Proofs.YtbnpclndiichcaaGreatDoor
open Go Go.Proofs.YtbnpclndiichcaaGreatDoor.Eng Go.Proofs.YtbnpclndiichcaaGreatDoor.Pl
set_option linter.unusedVariables false
set_option linter.unusedSimpArgs false
theorem wfI {n : Int} (h : (Lit.int .i64 n).wf = true) : i64r n := by
  simp [Lit.wf, IntKind.min, IntKind.max, IntKind.bits, IntKind.signed] at h
  unfold i64r; omega
theorem zone_of (tys : List (Int × Bool × ByteArray × Unit)) (trs lps : List (Int × Int × Unit)) (ft : ByteArray) (v : Int) (h1 : tys.length ≤ 9223372036854775807)
    (h2 : ∀ c ∈ trs, (Lit.int .i64 c.1).wf = true ∧ (Lit.int .i64 c.2.1).wf = true ∧ True) (h3 : ∀ c ∈ lps, (Lit.int .i64 c.1).wf = true ∧ (Lit.int .i64 c.2.1).wf = true ∧ True) (h4 : (Lit.int .i64 v).wf = true) :
    ∃ z, ZG z ∧ ((tys.map fun x => V.agg [.c (.int .i64 x.1), .c (.bool x.2.1), .c (.string x.2.2.1)], trs.map fun x => V.agg [.c (.int .i64 x.1), .c (.int .i64 x.2.1)], lps.map fun x => V.agg [.c (.int .i64 x.1), .c (.int .i64 x.2.1)], ft, v, ()) : List V × List V × List V × ByteArray × Int × Unit) = tupZ z := by
  have rcI : ∀ l : List (Int × Int × Unit), (∀ c ∈ l, (Lit.int .i64 c.1).wf = true ∧ (Lit.int .i64 c.2.1).wf = true ∧ True) → recI (l.map fun c => (c.1, c.2.1)) := fun l hl c hc => by
    obtain ⟨d, hd, rfl⟩ := List.mem_map.1 hc
    exact ⟨wfI (hl d hd).1, wfI (hl d hd).2.1⟩
  refine ⟨⟨tys.map fun t => (t.1, t.2.1, t.2.2.1.data.toList), trs.map fun c => (c.1, c.2.1), lps.map fun c => (c.1, c.2.1), ft.data.toList, v⟩, ⟨rcI lps h3, rcI trs h2, wfI h4, by simpa using h1⟩, ?_⟩
  unfold tupZ
  simp only [List.map_map]
  rfl
abbrev akZ : AK := (.st (.cons (.sl (.st (.cons (.int .i64) (.cons .bool (.cons .str .nil))))) (.cons (.sl (.st (.cons (.int .i64) (.cons (.int .i64) .nil)))) (.cons (.sl (.st (.cons (.int .i64) (.cons (.int .i64) .nil)))) (.cons .str (.cons (.int .i64) .nil))))))
theorem zone_in (a : akZ.T) (h : akZ.good a) : ∃ z, ZG z ∧ (akZ.DV a : List V × List V × List V × ByteArray × Int × Unit) = tupZ z := by
  obtain ⟨tys, trs, lps, ft, v, u⟩ := a
  obtain ⟨h1, h2, h3, h4, h5, h6⟩ := h
  exact zone_of tys trs lps ft v h1.1 h2.2 h3.2 h5
end Go.Proofs.YtbnpclndiichcaaGreatDoor
end
section
set_option linter.unusedVariables false
set_option linter.unusedSimpArgs false
namespace Go.Proofs.YtbnpclndiichcaaGreatDoor
open Go Go.Proofs.YtbnpclndiichcaaGreatDoor.Eng Go.Proofs.YtbnpclndiichcaaGreatDoor.Pl
theorem tzifShort0 (z : Zn) (hz : ZG z) (n : Int) (a : List Int) (h : ∀ x ∈ a, (Lit.int .u8 x).wf = true) : Xepactlaw20_TzifShort (tupZ z) n (a.map fun x => V.c (.int .u8 x)) (fun b => b = true) := by
  obtain ⟨l, e⟩ := b8_of a h
  rw [e]
  exact lTzifShort z hz n l rfl
theorem pureTzifShort : PureTzifShort := by
  intro a0 h0 a1 h1 a2 h2
  obtain ⟨z, hz, e⟩ := zone_in a0 h0
  rw [show (akTzifShort0.DV a0 : List V × List V × List V × ByteArray × Int × Unit) = tupZ z from e]
  exact tzifShort0 z hz a1 a2 h2.2
end Go.Proofs.YtbnpclndiichcaaGreatDoor
end
