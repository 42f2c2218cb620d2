/- What the functions come to in plain data, with proofs, and what that answers. -/
import Derived.Test.YtbnpclndiichcaaGreatDoorJTzifVersions2
section
set_option linter.unusedVariables false
set_option linter.unusedSimpArgs false
namespace Go.Proofs.YtbnpclndiichcaaGreatDoor
open Go Go.Proofs.YtbnpclndiichcaaGreatDoor.Eng Go.Proofs.YtbnpclndiichcaaGreatDoor.Pl
set_option linter.unusedVariables false
set_option linter.unusedSimpArgs false
set_option maxRecDepth 100000
set_option maxHeartbeats 4000000
theorem enc_size {z : Zn} (h : (encR z).2 = true) (hv : z.v ≠ 1) : (encR z).1.length = 97 + (blockB z 8).length + z.ft.length := by
  rw [(enc_form h).2.2, if_neg hv]
  simp only [List.length_append, headE_len, List.length_replicate, part_len, List.length_cons, List.length_nil]
  omega
theorem lTzifVersions (z : Zn) (hg : ZG z) (v : Int) (hv : i64r v) {K : Bool → Prop} (h : K true) : Xepactlaw20_TzifVersions (tupZ z) v K := by
  unfold Xepactlaw20_TzifVersions Yepactlaw20_TzifVersions
  refine tsmall20 (sFew z hg.tl (fun hf => ?_) ?_)
  · have hz := hg.zi hf
    have hlen := enc_len_le z hz
    obtain ⟨y, hy⟩ : ∃ y : Zn, y = ⟨z.ty, z.tr, z.lp, z.ft, v⟩ := ⟨_, rfl⟩
    have iy : ZI y := by rw [hy]; exact ⟨hz.ty, hz.tr, hz.lp, hz.ft, hz.nm, hz.ri, hz.ti, hv⟩
    have hleny := enc_len_le y iy
    have ty : ((tupZ z).1, (tupZ z).2.1, (tupZ z).2.2.1, (tupZ z).2.2.2.1, v, ()) = tupZ y := by rw [hy]; rfl
    rw [if_neg (by simp)]
    refine tTzEncode z hz (fun e => ?_) (fun e => ?_)
    · rw [ty]
      refine tTzEncode y iy (fun e2 => ?_) (fun e2 => ?_)
      · rw [if_neg (by simp), if_neg (by simp)]
        refine tDecode (encR z).1 (by omega) (zi_enc hz e) fun o1 f1 o2 f2 o3 f3 c1 c2 c3 => ?_
        rw [if_pos (okr c1), if_pos (okr c2), if_pos (okr c3)]
        refine tDecode (encR y).1 (by omega) (zi_enc iy e2) fun o1 f1 o2 f2 o3 f3 c1 c2 c3 => ?_
        rw [if_pos (okr c1), if_pos (okr c2), if_pos (okr c3), enc_dec e, enc_dec e2, if_pos rfl, if_pos (by rfl), if_pos (by rfl)]
        have hb : blockB y 8 = blockB z 8 := by rw [hy]; rfl
        have hft : y.ft = z.ft := by rw [hy]
        have hyv : y.v = v := by rw [hy]
        have es : ∀ Q : Bool → Prop, Q true → Xepactref16_Same (TV z.ty, RV z.tr, RV z.lp, S z.ft, z.v, ()) (TV y.ty, RV y.tr, RV y.lp, S y.ft, z.v, ()) Q := fun Q hQ => by
          rw [hy]
          refine qSame16 z z (by have := hz.ty; omega) (by have := hz.tr; omega) (by have := hz.lp; omega) ?_
          rw [sameZ_me]; exact hQ
        refine es _ ?_
        rw [if_pos rfl, B8_len, B8_len]
        by_cases l : (encR z).1.length = (encR y).1.length
        · rw [if_pos (by simp [l])]; exact h
        · rw [if_neg (by simp; omega)]
          by_cases v1 : z.v = 1
          · rw [if_pos (show ((tupZ z).2.2.2.2.1 == (1 : Int)) = true by show (z.v == (1 : Int)) = true; simp [v1])]; exact h
          · rw [if_neg (show ¬ ((tupZ z).2.2.2.2.1 == (1 : Int)) = true by show ¬ (z.v == (1 : Int)) = true; simpa using v1)]
            by_cases v2 : v = 1
            · rw [v2]; exact h
            · refine absurd ?_ l
              rw [enc_size e v1, enc_size e2 (by rw [hyv]; exact v2), hb, hft]
      · rw [if_neg (by simp), if_pos (show (!false) = true from rfl)]; exact h
    · rw [ty]
      refine tTzEncode y iy (fun e2 => ?_) (fun e2 => ?_)
      · rw [if_pos (show (!false) = true from rfl)]; exact h
      · rw [if_pos (show (!false) = true from rfl)]; exact h
  · rw [if_pos (show (!false) = true from rfl)]; exact h
end Go.Proofs.YtbnpclndiichcaaGreatDoor
end
section
set_option linter.unusedVariables false
set_option linter.unusedSimpArgs false
namespace Go.Proofs.YtbnpclndiichcaaGreatDoor
open Go Go.Proofs.YtbnpclndiichcaaGreatDoor.Eng Go.Proofs.YtbnpclndiichcaaGreatDoor.Pl
set_option linter.unusedVariables false
set_option linter.unusedSimpArgs false
theorem wfI {n : Int} (h : (Lit.int .i64 n).wf = true) : i64r n := by
  simp [Lit.wf, IntKind.min, IntKind.max, IntKind.bits, IntKind.signed] at h
  unfold i64r; omega
theorem zone_of (tys : List (Int × Bool × ByteArray × Unit)) (trs lps : List (Int × Int × Unit)) (ft : ByteArray) (v : Int) (h1 : tys.length ≤ 9223372036854775807)
    (h2 : ∀ c ∈ trs, (Lit.int .i64 c.1).wf = true ∧ (Lit.int .i64 c.2.1).wf = true ∧ True) (h3 : ∀ c ∈ lps, (Lit.int .i64 c.1).wf = true ∧ (Lit.int .i64 c.2.1).wf = true ∧ True) (h4 : (Lit.int .i64 v).wf = true) :
    ∃ z, ZG z ∧ ((tys.map fun x => V.agg [.c (.int .i64 x.1), .c (.bool x.2.1), .c (.string x.2.2.1)], trs.map fun x => V.agg [.c (.int .i64 x.1), .c (.int .i64 x.2.1)], lps.map fun x => V.agg [.c (.int .i64 x.1), .c (.int .i64 x.2.1)], ft, v, ()) : List V × List V × List V × ByteArray × Int × Unit) = tupZ z := by
  have rcI : ∀ l : List (Int × Int × Unit), (∀ c ∈ l, (Lit.int .i64 c.1).wf = true ∧ (Lit.int .i64 c.2.1).wf = true ∧ True) → recI (l.map fun c => (c.1, c.2.1)) := fun l hl c hc => by
    obtain ⟨d, hd, rfl⟩ := List.mem_map.1 hc
    exact ⟨wfI (hl d hd).1, wfI (hl d hd).2.1⟩
  refine ⟨⟨tys.map fun t => (t.1, t.2.1, t.2.2.1.data.toList), trs.map fun c => (c.1, c.2.1), lps.map fun c => (c.1, c.2.1), ft.data.toList, v⟩, ⟨rcI lps h3, rcI trs h2, wfI h4, by simpa using h1⟩, ?_⟩
  unfold tupZ
  simp only [List.map_map]
  rfl
abbrev akZ : AK := (.st (.cons (.sl (.st (.cons (.int .i64) (.cons .bool (.cons .str .nil))))) (.cons (.sl (.st (.cons (.int .i64) (.cons (.int .i64) .nil)))) (.cons (.sl (.st (.cons (.int .i64) (.cons (.int .i64) .nil)))) (.cons .str (.cons (.int .i64) .nil))))))
theorem zone_in (a : akZ.T) (h : akZ.good a) : ∃ z, ZG z ∧ (akZ.DV a : List V × List V × List V × ByteArray × Int × Unit) = tupZ z := by
  obtain ⟨tys, trs, lps, ft, v, u⟩ := a
  obtain ⟨h1, h2, h3, h4, h5, h6⟩ := h
  exact zone_of tys trs lps ft v h1.1 h2.2 h3.2 h5
end Go.Proofs.YtbnpclndiichcaaGreatDoor
end
section
set_option linter.unusedVariables false
set_option linter.unusedSimpArgs false
namespace Go.Proofs.YtbnpclndiichcaaGreatDoor
open Go Go.Proofs.YtbnpclndiichcaaGreatDoor.Eng Go.Proofs.YtbnpclndiichcaaGreatDoor.Pl
theorem pureTzifVersions : PureTzifVersions := by
  intro a0 h0 a1 h1
  obtain ⟨z, hz, e⟩ := zone_in a0 h0
  rw [show (akTzifVersions0.DV a0 : List V × List V × List V × ByteArray × Int × Unit) = tupZ z from e]
  exact lTzifVersions z hz _ (wfI h1) rfl
end Go.Proofs.YtbnpclndiichcaaGreatDoor
end
