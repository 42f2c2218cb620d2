/- An interpreter of the model's code over values without addresses, and its proof of soundness. -/
import Derived.Test.YtbnpclndiichcaaGreatDoorE0
import Derived.Lib.AppendStr
import Derived.Great.BuildSlice
import Derived.ChangeKeysEq
section
set_option linter.unusedVariables false
set_option linter.unusedSimpArgs false
namespace Go.Proofs.YtbnpclndiichcaaGreatDoor.Eng
open Go
set_option linter.unusedVariables false
set_option linter.unusedSimpArgs false

section
variable {P : Program} {gives : FuncId → Bool} {C : CL}
variable {B : Base} {n : Nat} {F : Fz} {ρ : Rho} {s : S} {a : Act} {w : World} {o : Oper} {K : S → Prop} {T : Nat → Prop}

theorem replicate_get {α : Type} {m i : Nat} {x y : α} (h : (List.replicate m x)[i]? = some y) : i < m ∧ y = x := by
  obtain ⟨h1, h2⟩ := List.getElem?_eq_some_iff.1 h
  simp at h1 h2
  exact ⟨h1, h2.symm⟩
theorem flat_okCell {x : V} (h : flat x = true) : okCells x.cells = true ∨ ∃ cs, x = .agg cs := by
  cases x <;> first | exact .inr ⟨_, rfl⟩ | (left; simp [V.cells, okCells, okCell]; done) | (simp [flat] at h)

theorem ints_some {v : V} {i : Int} (h : ints v = some i) : ∃ k, v = .c (.int k i) := by
  unfold ints at h
  split at h
  · cases h; exact ⟨_, rfl⟩
  · cases h

theorem zero_cells {t : TypeId} {z : V} {i : TypeInfo} {zv : Value} (h3 : ofVal zv = z) (hf : flat z = true) :
    zv.cells.size = z.cells.length ∧ ∀ (j : Nat) (d : Value), zv.cells[j]? = some d → okC d = true ∧ ∀ u, z.cells[j]? = some u → VR (clOf w) F ρ u d := by
  have hok : okCells z.cells = true := by
    rcases flat_okCell hf with h | ⟨cs, rfl⟩
    · exact h
    · unfold ofVal at h3
      split at h3
      · rename_i vs
        cases hb : vs.toList.all (fun v => v.oneCell')
        · rw [hb] at h3; cases h3
        · rw [hb] at h3
          simp only [cond_true, V.agg.injEq] at h3
          simp only [V.cells]
          rw [← h3]
          refine okCells_mem.2 fun v hv => ?_
          obtain ⟨x, hx, rfl⟩ := List.mem_map.1 hv
          have := List.all_eq_true.1 hb x hx
          unfold ofCell
          split <;> first | rfl | (simp [Value.oneCell'] at this)
      · unfold ofCell at h3
        split at h3 <;> cases h3
  exact cells_rel hok (h3 ▸ VR.ofVal zv)

theorem op_makeSlice {t e : TypeId} {x y : Operand} {z : V} {i m : Int} (ho : o.op = .makeSlice t x y) (hR : RelF B n F ρ s a w) (ht : isSlice P t = some e)
    (hx : ints (s.ev x) = some i) (hy : ints (s.ev y) = some m) (hz : zeroV P e = some z) (hf : flat z = true) (hsz : z.cells.length = szOf P e) (hb : bytesOf P e ≤ 1000)
    (hi : 0 ≤ i ∧ i ≤ m ∧ m ≤ 4294967296)
    (hT : TD T o) (hk : fresh (envP P n gives C) o s (.arr (szOf P e) (List.replicate i.toNat z) true false 0) (fun k => .sla k 0) K) : OpOk P B n F ρ s T o a w K := by
  obtain ⟨kx, hx'⟩ := ints_some hx
  obtain ⟨ky, hy'⟩ := ints_some hy
  have hex := hR.ev x; rw [hx'] at hex
  have hey := hR.ev y; rw [hy'] at hey
  obtain ⟨ti, zv, h1, h2, h3, h4⟩ := zeroV_run hz
  obtain ⟨d1, d2⟩ := zero_cells (t := t) (i := ti) (w := w) (F := F) (ρ := ρ) h3 hf
  have hts : ti.size = szOf P e := by simp [szOf, h1]
  have htb : ti.bytes ≤ 1000 := by simpa [bytesOf, h1] using hb
  have hbm : (ti.bytes : Int) * m ≤ 281474976710656 := by
    have h5 : (ti.bytes : Int) * m ≤ 1000 * m := Int.mul_le_mul_of_nonneg_right (by omega) (by omega)
    omega
  have hrun := run_make (P := P) w t e ti zv (isSlice_some ht) h1 h2 kx ky i m hi.1 hi.2.1 hbm (by omega)
  rw [hts] at hrun
  have hmod : ∀ q j, j < szOf P e → (q * szOf P e + j) % zv.cells.size = j := fun q j hj => by
    rw [d1, hsz, Nat.add_comm, Nat.add_mul_mod_self_right, Nat.mod_eq_of_lt hj]
  refine okFresh (l := ⟨0, w.heap.size, 0, m.toNat, (List.replicate i.toNat z).length, szOf P e, 0⟩) hT hk (c := .slice (some ⟨w.heap.size, 0, none⟩) i.toNat m.toNat) ?_
    (fun k hkk h64 => hR.newRow k (szOf P e) (List.replicate i.toNat z) (madeCells zv.cells (m.toNat * szOf P e)) e (0, 0) m.toNat (by rw [List.length_replicate]; omega) (.inl rfl) (by rw [size_madeCells]; exact Nat.le_refl _) (fun q u hu => ?_) (fun q u j hu hj => ?_) h64) (.alloc _ _) (fun k => by rw [List.length_replicate]; exact .slaNew)
  · simp [execOp, ho, hex.c_inv, hey.c_inv, hrun]
  · obtain ⟨_, rfl⟩ := replicate_get hu
    exact ⟨hsz, hf⟩
  · obtain ⟨hq, rfl⟩ := replicate_get hu
    have hj' : j < zv.cells.size := by rw [d1, hsz]; exact hj
    obtain ⟨e1, e2⟩ := d2 j zv.cells[j] (Array.getElem?_eq_getElem hj')
    refine ⟨zv.cells[j], ?_, e1, fun y hy => e2 y hy⟩
    have hlt : q * szOf P e + j < m.toNat * szOf P e := idx_lt (by omega) hj
    unfold madeCells
    rw [Array.getElem?_map, Array.getElem?_range, if_pos hlt]
    simp only [Option.map_some, Option.some.injEq]
    rw [hmod q j hj]
    exact getElem!_pos zv.cells j hj'

theorem allU8_get {xs : List V} (h : allU8 xs = true) {i : Nat} {x : V} (hx : xs[i]? = some x) : ∃ m, x = .c (.int .u8 m) := by
  have := List.all_eq_true.1 h x (List.mem_of_getElem? hx)
  cases x with
  | c v => cases v with
    | int k m => cases k <;> first | exact ⟨m, rfl⟩ | (simp [isU8] at this)
    | _ => simp [isU8] at this
  | _ => simp [isU8] at this

theorem foldl_push : ∀ (l : List Int) (r : ByteArray), l.foldl (fun r n => r.push (UInt8.ofNat n.toNat)) r = ⟨r.data ++ (l.map fun n => UInt8.ofNat n.toNat).toArray⟩
  | [], r => by simp
  | b :: l, r => by
    simp only [List.foldl_cons]
    rw [foldl_push l]
    simp [ByteArray.push]

theorem op_bytesString {src dst e : TypeId} {x : Operand} {xs : List V} (ho : o.op = .convert src dst x) (hR : RelF B n F ρ s a w) (hs : isSlice P src = some e)
    (he : isInt P e .u8 = true) (hd : isStr P dst = true) (hc : content s (s.ev x) = some xs) (hu : allU8 xs = true)
    (hk : fin (envP P n gives C) o s (.c (.string (packB xs))) K) : OpOk P B n F ρ s T o a w K := by
  obtain ⟨ad, cap, g, p, hav, h1, h2, h3⟩ := row_of hR.hr (tm := s.tm) (hR.ev x) hc
  refine okVal hk ?_ hR (.c rfl)
  have hconv := run_convert_bytes_string (P := P) w src dst e ad xs.length cap (isSlice_some hs) (isInt_some he) (isStr_some hd)
  have hrun : (Conv.bytesToString (.slice ad xs.length cap)).run P w = .ok (.string (packB xs)) w := by
    cases hx : xs with
    | nil =>
      cases ad with
      | none => rfl
      | some b => simp [Conv.bytesToString, loadCells, loadCellsFrom, packB]; rfl
    | cons x0 r =>
      have hpos : cap ≠ 0 := by rw [hx] at h1; simp at h1; omega
      rcases h2 with h2 | h2
      · exact absurd h2 hpos
      · subst h2
        have hes : esV s.hp (s.ev x) = 1 := by
          have hx0 : xs[0]? = some x0 := by rw [hx]; rfl
          obtain ⟨m, rfl⟩ := allU8_get hu hx0
          exact ((h3.wid 0 _ hx0).1).symm
        let ns : List Int := xs.map fun | .c (.int _ m) => m | _ => 0
        have hns : (ns.map fun n => UInt8.ofNat n.toNat) = xs.map byteOf := by
          simp only [ns, List.map_map]
          refine List.map_congr_left fun y hy => ?_
          obtain ⟨i, hi⟩ := List.getElem?_of_mem hy
          obtain ⟨m, rfl⟩ := allU8_get hu hi
          rfl
        have hl := run_loadCells_list (P := P) w ⟨g, p, none⟩ (ns.map (Value.int .u8)) (fun j v hj => by
          simp only [ns, List.map_map, List.getElem?_map] at hj
          cases hxj : xs[j]? with
          | none => rw [hxj] at hj; cases hj
          | some y =>
            rw [hxj] at hj
            obtain ⟨m, rfl⟩ := allU8_get hu hxj
            simp at hj
            subst hj
            obtain ⟨c, c1, c2, c3, _⟩ := h3.cell j _ 0 hxj (by omega)
            have := (c3 _ rfl).c_inv
            subst this
            rw [add_lit]
            rw [hes] at c1
            simpa [clOf] using c1)
        have hlen : (ns.map (Value.int .u8)).length = xs.length := by simp [ns]
        rw [hlen] at hl
        rw [← hx, run_bytesToString w ⟨g, p, none⟩ xs.length cap ns hl, foldl_push, hns]
        have : ByteArray.empty.data = #[] := rfl
        rw [this]
        simp [packB]
  simp [execOp, ho, hav, hconv, hrun]

/-- What a slice and its bounds come to. -/
theorem run_bounds {isS : Bool} {m cap : Nat} {lo hi : Option Value} {l h : Int} (hlo : (lo = none ∧ l = 0) ∨ ∃ k, lo = some (.int k l)) (hhi : (hi = none ∧ h = m) ∨ ∃ k, hi = some (.int k h))
    (hm : m ≤ cap) (h1 : 0 ≤ h ∧ h ≤ (m : Int)) (h2 : 0 ≤ l ∧ l ≤ h) (w : World) : (Instr.sliceBounds isS m cap lo hi none).run P w = .ok (l.toNat, h.toNat, cap) w := by
  have hb : ∀ (k : IntKind) (i : Int) (y : Nat) (code : BoundsCode), 0 ≤ i → i ≤ (y : Int) → (Instr.sliceBound (.int k i) y code).run P w = .ok i.toNat w := fun k i y code g1 g2 => run_sliceBound w k i y code g1 g2
  rcases hhi with ⟨rfl, rfl⟩ | ⟨kh, rfl⟩ <;> rcases hlo with ⟨rfl, rfl⟩ | ⟨kl, rfl⟩
  · simp [Instr.sliceBounds]
  · simp [Instr.sliceBounds, hb kl l m _ h2.1 h2.2]
  · simp [Instr.sliceBounds, hb kh h cap _ h1.1 (by omega)]
  · simp [Instr.sliceBounds, hb kh h cap _ h1.1 (by omega), hb kl l h.toNat _ h2.1 (by omega)]

theorem optI_inv {u : Option V} {d : Int} {K : Int → Prop} (h : optI False u d K) : ∃ i, ((u = none ∧ i = d) ∨ ∃ k, u = some (.c (.int k i))) ∧ K i := by
  unfold optI at h
  split at h
  · exact ⟨d, .inl ⟨rfl, rfl⟩, h⟩
  · exact ⟨_, .inr ⟨_, rfl⟩, h⟩
  · exact h.elim
theorem optEv (hR : RelF B n F ρ s a w) {x : Option Operand} {i d : Int} (h : ((x.map s.ev = none ∧ i = d) ∨ ∃ k, x.map s.ev = some (.c (.int k i)))) :
    (x.map a.eval = none ∧ i = d) ∨ ∃ k, x.map a.eval = some (.int k i) := by
  cases x with
  | none => rcases h with ⟨_, h⟩ | ⟨k, h⟩ <;> simp at h ⊢; exact h
  | some y =>
    rcases h with ⟨h, _⟩ | ⟨k, h⟩
    · simp at h
    · simp at h
      have := hR.ev y
      rw [h] at this
      exact .inr ⟨k, by simp [this.c_inv]⟩

theorem bounds_inv {m l h : Int} {K : Prop} (hb : bounds (envP P n gives C) m l h K) : (0 ≤ h ∧ h ≤ m) ∧ (0 ≤ l ∧ l ≤ h) ∧ K := by
  unfold bounds at hb
  split at hb
  · split at hb
    · exact ⟨by assumption, by assumption, hb⟩
    · exact hb.elim
  · exact hb.elim

theorem op_slice {t : TypeId} {x : Operand} {lo hi mx : Option Operand} (ho : o.op = .slice t x lo hi mx) (hm : litMx o = true) (hR : RelF B n F ρ s a w)
    (hk : sliceC (envP P n gives C) o t (s.ev x) (lo.map s.ev) (hi.map s.ev) (mx.map s.ev) s K) : PurOk C P n gives F ρ s o a w K := by
  have hex := hR.ev x
  unfold sliceC at hk
  have eP : (envP P n gives C).P = P := rfl
  have ef : (envP P n gives C).f = False := rfl
  simp only [eP, ef] at hk
  split at hk
  · rename_i b hx
    rw [hx] at hex
    cases hb : (isStr P t && (mx.map s.ev).isNone)
    · rw [hb] at hk; exact hk.elim
    · rw [hb] at hk
      simp only [cond_true] at hk
      simp only [Bool.and_eq_true] at hb
      have hmx : mx = none := by cases mx <;> simp at hb ⊢
      subst hmx
      obtain ⟨l, hl, hk⟩ := optI_inv hk
      obtain ⟨h, hh, hk⟩ := optI_inv hk
      unfold sliceStr at hk
      split at hk
      · split at hk
        · rename_i g1 g2
          refine okPur hk (fun w => ?_) hR (.c rfl)
          have hrun := run_bounds (P := P) (isS := false) (cap := b.size) (optEv hR hl) (optEv hR hh) (Nat.le_refl _) g1 g2 w
          simp only [execOp, ho, hex.c_inv, Option.map_none, Sem.run_bind, run_sliceAt_string w t _ _ _ _ (isStr_some hb.1), Instr.slice, run_underlying (isStr_some hb.1), Result.andThen_ok, Option.isSome_none, Bool.false_eq_true, if_false, Sem.run_pure]
          simp [hrun]
        · exact hk.elim
      · exact hk.elim
  · split at hk
    · rename_i e m hs hlen
      have hse := isSlice_some hs
      split at hk
      · rename_i hmx
        cases hz : Nat.beq (szOf P e) 0
        case true => rw [hz] at hmx; cases hmx
        have hz0 : szOf P e ≠ 0 := fun e0 => by rw [e0] at hz; cases hz
        rw [hz] at hmx
        have hmx' : mx = none := by cases mx <;> simp at hmx ⊢
        subst hmx'
        obtain ⟨l, hl, hkA⟩ := optI_inv hk
        clear hk
        obtain ⟨h, hh, hkB⟩ := optI_inv hkA
        clear hkA
        obtain ⟨g1, g2, hk⟩ := bounds_inv hkB
        clear hkB
        have hP : P.elem t = e := by simp [Program.elem, hse]
        have hrun : ∀ ad cap (w : World), a.eval x = .slice ad m cap → m ≤ cap → (execOp a.eval o).run P w = .ok (.value (sliced ad l.toNat h.toNat cap (szOf P e))) w := fun ad cap w hx hcap => by
          have hb := run_bounds (P := P) (isS := true) (cap := cap) (optEv hR hl) (optEv hR hh) hcap g1 g2 w
          simp only [execOp, ho, hx, Option.map_none, Sem.run_bind]
          rw [run_sliceAt_slice w t _ _ _ _ (by rw [hP]; exact hse), run_slice_any w t ad m cap (by rw [hP]; exact hse), hb]
          simp [hP, run_sizeOf' hz0]
        have g3 : l.toNat ≤ h.toNat := by omega
        have g4 : h.toNat ≤ m := by omega
        have addr : ∀ {ad : Option Addr} {g p cap : Nat}, m ≤ cap → (cap = 0 ∨ ad = some ⟨g, p, none⟩) →
            (cap - l.toNat = 0 ∨ (if cap = l.toNat then ad else ad.map (·.add (l.toNat * szOf P e))) = some ⟨g, p + l.toNat * szOf P e, none⟩) := by
          intro ad g p cap hcap ha
          by_cases hcl : cap = l.toNat
          · exact .inl (by omega)
          · rw [if_neg hcl]
            rcases ha with ha | ha
            · exact absurd ha (by omega)
            · subst ha
              exact .inr (by simp [add_lit])
        split at hk
        · rename_i es fl xs hxv
          rw [hxv] at hex hlen
          simp only [lenOf, Option.some.injEq] at hlen
          generalize hcv : a.eval x = cv at hex
          cases hes : (Nat.beq es (szOf P e) || xs.isEmpty)
          · rw [hes] at hk; exact hk.elim
          rw [hes] at hk
          simp only [cond_true] at hk
          obtain ⟨ad, cap, g, p, hav, r1, r2, r3⟩ := row_of hR.hr (tm := s.tm) (v := .sl es fl xs) hex rfl
          have hfl : fl = true → cap = xs.length := by
            intro hft
            rw [hav] at hex
            cases hex with
            | sl cf hn hc hf ha hw hF hv => exact hf hft
          rw [hlen] at hav r1
          refine okPur hk (fun w => hrun ad cap w (hcv.trans hav) r1) hR ?_
          have hcut : (cutL xs l.toNat (h.toNat - l.toNat)).length = h.toNat - l.toNat := cutL_length (by omega)
          have hrow := r3.cut l.toNat (h.toNat - l.toNat)
          have hes' : szOf P e = es ∨ xs = [] := by
            rcases Bool.or_eq_true_iff.1 hes with h1 | h1
            · exact .inl (Nat.eq_of_beq_eq_true h1).symm
            · exact .inr (by simpa using h1)
          have hA : cap - l.toNat = 0 ∨ (if cap = l.toNat then ad else ad.map (·.add (l.toNat * szOf P e))) = some ⟨g, p + l.toNat * es, none⟩ := by
            rcases hes' with h1 | h1
            · rw [← h1]; exact addr r1 r2
            · rw [h1] at hlen; simp at hlen
              have hl0 : l.toNat = 0 := by omega
              have := addr r1 r2
              rw [hl0] at this ⊢
              simpa using this
          have hB : (fl && Nat.beq h.toNat xs.length) = true → cap - l.toNat = (cutL xs l.toNat (h.toNat - l.toNat)).length := fun hft => by
            simp only [Bool.and_eq_true] at hft
            have := hfl hft.1
            have := Nat.eq_of_beq_eq_true hft.2
            rw [hcut]; omega
          have key := sl_of_row hrow (by rw [hcut]; omega) hA hB
          rw [hcut] at key
          exact key
        · rename_i k v hxv
          rw [hxv] at hex hlen
          generalize hcv : a.eval x = cv at hex
          split at hk
          · rename_i es xs own frz ver hl
            cases hb : Nat.beq es (szOf P e)
            · rw [hb] at hk; exact hk.elim
            rw [hb] at hk
            simp only [cond_true] at hk
            have hes := Nat.eq_of_beq_eq_true hb
            obtain ⟨c1, c2, c3, c4, _⟩ := hR.hr.sr k _ hl
            simp only [lenOf, hl] at hlen
            cases hbv : Nat.beq v ver
            · rw [hbv] at hlen; cases hlen
            rw [hbv] at hlen
            simp only [cond_true, Option.some.injEq] at hlen
            have hvv := Nat.eq_of_beq_eq_true hbv
            cases hex with
            | sla hv hh' =>
              rename_i m' cap ad
              obtain ⟨b1, b2, b3⟩ := hh' (by omega)
              have hm' : m' = m := by omega
              subst hm'
              refine okPur hk (fun w => hrun ad cap w hcv (by omega)) hR (.slm hv fun _ => ⟨rfl, by omega, by omega, ?_⟩)
              rw [c1, hes]
              exact addr (by omega) b3
          · exact hk.elim
        · rename_i k a0 len v hxv
          rw [hxv] at hex hlen
          generalize hcv : a.eval x = cv at hex
          split at hk
          · rename_i es xs own frz ver hl
            cases hb : Nat.beq es (szOf P e)
            · rw [hb] at hk; exact hk.elim
            rw [hb] at hk
            simp only [cond_true] at hk
            have hes := Nat.eq_of_beq_eq_true hb
            obtain ⟨c1, c2, c3, c4, _⟩ := hR.hr.sr k _ hl
            simp only [lenOf, hl] at hlen
            cases hbv : Nat.beq v ver
            · rw [hbv] at hlen; cases hlen
            rw [hbv] at hlen
            simp only [cond_true, Option.some.injEq] at hlen
            have hvv := Nat.eq_of_beq_eq_true hbv
            cases hex with
            | slm hv hh' =>
              rename_i m' cap ad
              obtain ⟨b1, b2, b3, b4⟩ := hh' (by omega)
              have hm' : m' = m := by omega
              subst hm'
              refine okPur hk (fun w => hrun ad cap w hcv (by omega)) hR (.slm hv fun _ => ⟨rfl, by omega, by omega, ?_⟩)
              have := addr (show m' ≤ cap by omega) b4
              rw [c1, hes] at this ⊢
              rw [Nat.add_mul, ← Nat.add_assoc]
              exact this
          · exact hk.elim
        · exact hk.elim
      · rename_i m' hmx
        rw [hm] at hk
        simp only [cond_true] at hk
        unfold zeroSl at hk
        split at hk
        case h_2 => exact hk.elim
        rename_i kh h kq q hlo hhi
        split at hk
        case isFalse => exact hk.elim
        rename_i h0
        obtain ⟨rfl, rfl⟩ := h0
        cases hz : Nat.beq (szOf P e) 0 with
        | true => rw [hz] at hmx; cases hmx
        | false =>
        have hz0 : szOf P e ≠ 0 := fun e0 => by rw [e0] at hz; cases hz
        rw [hz] at hmx
        simp only [cond_false] at hmx
        have hP : P.elem t = e := by simp [Program.elem, hse]
        have hlo' : lo = none := by cases lo <;> simp at hlo ⊢
        subst hlo'
        obtain ⟨yh, rfl, hyh⟩ : ∃ y, hi = some y ∧ s.ev y = .c (.int kh 0) := by cases hi <;> simp at hhi ⊢; exact hhi
        obtain ⟨ym, rfl, hym⟩ : ∃ y, mx = some y ∧ s.ev y = .c (.int kq 0) := by cases mx <;> simp at hmx ⊢; exact hmx
        have eh := hR.ev yh
        rw [hyh] at eh
        have em := hR.ev ym
        rw [hym] at em
        obtain ⟨ad, n', cap, hxv⟩ : ∃ ad n' cap, a.eval x = .slice ad n' cap := by
          generalize a.eval x = cv at hex
          unfold lenOf at hlen
          split at hlen
          · rename_i hv; rw [hv] at hex; cases hex; exact ⟨_, _, _, rfl⟩
          · rename_i hv; rw [hv] at hex; cases hex; exact ⟨_, _, _, rfl⟩
          · rename_i hv; rw [hv] at hex; cases hex; exact ⟨_, _, _, rfl⟩
          · cases hlen
        refine okPur hk (c := .slice ad 0 0) (fun w => ?_) hR (.sl (g := 0) (p := 0) (fun _ _ => default) rfl (Nat.le_refl _) (fun _ => rfl) (.inl rfl) (fun i x h => by simp at h) (fun i x j h => by simp at h) (fun i x j y h => by simp at h))
        have hb : ∀ (k : IntKind) (y : Nat) (code : BoundsCode), (Instr.sliceBound (.int k 0) y code).run P w = .ok 0 w := fun k y code => run_sliceBound w k 0 y code (Int.le_refl _) (by omega)
        simp only [execOp, ho, hxv, Option.map_none, Option.map_some, eh.c_inv, em.c_inv, Sem.run_bind]
        rw [run_sliceAt_slice w t _ _ _ _ (by rw [hP]; exact hse), run_slice_any w t ad n' cap (by rw [hP]; exact hse)]
        simp [Instr.sliceBounds, hb, hP, run_sizeOf' hz0, sliced]
    · exact hk.elim

/-- A row that is cut for good. -/
theorem op_slice3 {t : TypeId} {x : Operand} {lo hi mx : Option Operand} (ho : o.op = .slice t x lo hi mx) (hm : litMx o = false) (hR : RelF B n F ρ s a w)
    (hT : ∀ k ∈ skeys (s.ev x), T k)
    (hk : sliceC (envP P n gives C) o t (s.ev x) (lo.map s.ev) (hi.map s.ev) (mx.map s.ev) s K) : OpOk P B n F ρ s T o a w K := by
  have hex := hR.ev x
  obtain ⟨ym, rfl⟩ : ∃ y, mx = some y := by
    cases mx with
    | none => simp [litMx, ho] at hm
    | some y => exact ⟨y, rfl⟩
  unfold sliceC at hk
  have eP : (envP P n gives C).P = P := rfl
  have ef : (envP P n gives C).f = False := rfl
  simp only [eP, ef] at hk
  split at hk
  · simp at hk
  split at hk
  case h_2 => exact hk.elim
  rename_i e m hs hlen
  have hse := isSlice_some hs
  split at hk
  · rename_i hmx
    cases hz : Nat.beq (szOf P e) 0 <;> rw [hz] at hmx <;> simp at hmx
  rename_i m' hmx
  rw [hm] at hk
  simp only [cond_false] at hk
  unfold headSl at hk
  split at hk
  case h_2 => exact hk.elim
  rename_i kh h kq q hlo hhi
  split at hk
  case isFalse => exact hk.elim
  rename_i h0
  obtain ⟨g1, rfl, g2⟩ := h0
  cases hz : Nat.beq (szOf P e) 0 with
  | true => rw [hz] at hmx; cases hmx
  | false =>
  have hz0 : szOf P e ≠ 0 := fun e0 => by rw [e0] at hz; cases hz
  rw [hz] at hmx
  simp only [cond_false, Option.map_some, Option.some.injEq] at hmx
  have hP : P.elem t = e := by simp [Program.elem, hse]
  have hlo' : lo = none := by cases lo <;> simp at hlo ⊢
  subst hlo'
  obtain ⟨yh, rfl, hyh⟩ : ∃ y, hi = some y ∧ s.ev y = .c (.int kh h) := by cases hi <;> simp at hhi ⊢; exact hhi
  have eh := hR.ev yh
  rw [hyh] at eh
  have em := hR.ev ym
  rw [hmx] at em
  split at hk
  case h_2 => exact hk.elim
  rename_i k v hxv
  rw [hxv] at hex hlen hT
  generalize hcv : a.eval x = cv at hex
  split at hk
  case h_2 => exact hk.elim
  rename_i es xs own frz ver hl
  cases hb : Nat.beq v ver && Nat.beq es (szOf P e)
  · rw [eP, hb] at hk; exact hk.elim
  rw [eP, hb] at hk
  simp only [cond_true] at hk
  simp only [Bool.and_eq_true] at hb
  have hv0 := Nat.eq_of_beq_eq_true hb.1
  have hes := Nat.eq_of_beq_eq_true hb.2
  subst hv0
  simp only [lenOf, hl, Nat.beq_refl, cond_true, Option.some.injEq] at hlen
  obtain ⟨h1, h2, h3, h4, h5, h6, h7⟩ := hR.hr.sr k _ hl
  cases hex with
  | sla hv hh' =>
  rename_i m0 cap ad
  obtain ⟨b1, b2, b3⟩ := hh' h3.symm
  have hmn : m0 = m := by omega
  subst hmn
  have hle : h.toNat ≤ xs.length := by omega
  have hb' : ∀ (k : IntKind) (y : Nat) (code : BoundsCode), h ≤ (y : Int) → (Instr.sliceBound (.int k h) y code).run P w = .ok h.toNat w := fun k y code hy => run_sliceBound w k h y code g1 hy
  have hrun : (execOp a.eval o).run P w = .ok (.value (.slice (if h.toNat = 0 then ad else ad.map (·.add 0)) h.toNat h.toNat)) w := by
    simp only [execOp, ho, hcv, Option.map_none, Option.map_some, eh.c_inv, em.c_inv, Sem.run_bind]
    rw [run_sliceAt_slice w t _ _ _ _ (by rw [hP]; exact hse), run_slice_any w t ad m0 cap (by rw [hP]; exact hse)]
    simp [Instr.sliceBounds, hb' kq cap .slice3Acap (by omega), hb' kh h.toNat .slice3B (by omega), hP, run_sizeOf' hz0, sliced]
  have hag : agree (ρ k) { ρ k with len := h.toNat, cap := h.toNat, ver := v + 1 } := ⟨rfl, .inr (by simp only [h3]; exact Nat.lt_succ_self _)⟩
  have er : (upd ρ k { ρ k with len := h.toNat, cap := h.toNat, ver := v + 1 }) k = { ρ k with len := h.toNat, cap := h.toNat, ver := v + 1 } := upd_same _ _ _
  have htl : (xs.take h.toNat).length = h.toNat := by simp; omega
  have hmul : h.toNat * es ≤ xs.length * es := Nat.mul_le_mul_right _ hle
  have hsub : ∀ g p, owns (upd ρ k { ρ k with len := h.toNat, cap := h.toNat, ver := v + 1 }) k (.arr es (xs.take h.toNat) own frz (v + 1)) g p → owns ρ k (.arr es xs own frz v) g p := fun g p ho => by
    simp only [owns, er, htl] at ho ⊢
    obtain ⟨o1, o2, o3⟩ := ho
    refine ⟨o1, o2, ?_⟩
    rcases o3 with ⟨o3, o4⟩ | ⟨_, o3, o4⟩
    · exact .inl ⟨o3, by omega⟩
    · omega
  have hR' := hR.turn hl (.arr es (xs.take h.toNat) own frz (v + 1)) { ρ k with len := h.toNat, cap := h.toNat, ver := v + 1 } F w w.heap.size hag rfl (fun _ _ _ => rfl) ⟨.refl _, fun _ _ => rfl⟩ (fun _ _ => rfl) hR.fr.size
    (fun p hf => Nat.lt_irrefl _ (hR.hr.fin _ _ hf)) (fun j y p hy ho => Nat.lt_irrefl _ (hR.hr.free j y _ p hy ho).2.2) (fun _ _ h => h) (fun _ _ h => .inl h) (by
      simp only [SR, er]
      refine ⟨h1, htl.symm, trivial, by omega, fun i x hx => ?_, fun i x j hx hj => ?_, fun _ p hp1 hp2 => ?_⟩
      · rw [List.getElem?_take] at hx
        split at hx
        · exact h5 i x hx
        · cases hx
      · rw [List.getElem?_take] at hx
        split at hx
        · obtain ⟨c', c1, c2, c3, c4⟩ := h6 i x j hx hj
          exact ⟨c', c1, c2, fun y hy => (c3 y hy).mono (fun _ _ h => h) (fun _ _ _ _ h => h) fun j hj => by rw [flat_keys y (flat_cells (h5 i x hx).2 hy)] at hj; (cases hj), c4⟩
        · cases hx
      · rw [htl] at hp1; omega) (fun g p ho => ⟨fun hf => (hR.hr.free k _ g p hl (hsub g p ho)).1 hf, .inl (hsub g p ho)⟩)
  refine okTurn hk hrun hR' (Kept.turn (hT k (.head _)) hl (fun _ _ h => h) (Nat.le_refl _) (fun _ _ _ _ => rfl)) ?_
  refine .sla (by rw [er]; exact Nat.le_refl _) fun _ => ?_
  rw [er]
  refine ⟨rfl, rfl, ?_⟩
  by_cases e0 : h.toNat = 0
  · exact .inl e0
  · rw [if_neg e0]
    rcases b3 with b3 | b3
    · omega
    · rw [b3]; exact .inr (by simp [add_lit])
end
end Go.Proofs.YtbnpclndiichcaaGreatDoor.Eng
end
section
set_option linter.unusedVariables false
set_option linter.unusedSimpArgs false
namespace Go.Proofs.YtbnpclndiichcaaGreatDoor.Eng
open Go
set_option linter.unusedVariables false
set_option linter.unusedSimpArgs false

section
variable {P : Program} {gives : FuncId → Bool} {C : CL}
variable {B : Base} {n : Nat} {F : Fz} {ρ : Rho} {s : S} {a : Act} {w : World} {o : Oper} {K : S → Prop} {T : Nat → Prop}

set_option maxRecDepth 20000 in
theorem wrapN {m : Nat} (h : m ≤ 4398046511104) : IntKind.i64.wrap (m : Int) = (m : Int) := by
  rw [IntKind.wrap_i64]; omega

/-- What append is handed: m elements, whose cells are news. -/
structure Adds (P : Program) (e u : TypeId) (x : Value) (m : Nat) (news : List Value) (w : World) : Prop where
  kind : (∃ d, P.underlying u = some d ∧ ((∃ e', d = .slice e') ∨ d = .string) ∧ (∀ w', (Builtin.lenOf x).run P w' = .ok m w') ∧
      ∀ w', (∀ ad, w'.cell? ad = w.cell? ad) → (Builtin.firstCells (szOf P e) m x).run P w' = .ok news.toArray w') ∨
    (∃ k q z, P.underlying u = some (.int k) ∧ x = .int .i64 (q : Nat) ∧ m = q ∧ q ≤ 4398046511104 ∧ ((P.info? e).bind (·.zero)) = some z ∧ news.toArray = Builtin.zeroCells z.cells m ∧ z.cells.size = szOf P e)

set_option maxRecDepth 4000 in
theorem run_append_in {t u e ty : TypeId} {x : Value} {m sLen sCap : Nat} {news : List Value} {base : Option Addr} (ht : P.underlying t = some (.slice e)) (hz : szOf P e ≠ 0)
    (hx : Adds P e u x m news w) (hb : m * bytesOf P e ≤ 281474976710656) (h : sLen + m ≤ sCap) :
    (Builtin.append_ #[t, u] ty #[.slice base sLen sCap, x]).run P w = match base with
      | some b => ((storeCells (b.add (sLen * szOf P e)) news).run P w).andThen fun _ w' => .ok (.slice base (sLen + m) sCap) w'
      | none => .ok (.slice base (sLen + m) sCap) w := by
  have hsz := run_sizeOf' (P := P) hz
  obtain ⟨ti, hti⟩ := info_of_underlying ht
  have hie : ∃ i, P.info? e = some i := by
    unfold szOf at hz
    cases hi : P.info? e with
    | none => rw [hi] at hz; simp at hz
    | some i => exact ⟨i, rfl⟩
  obtain ⟨ie, hie⟩ := hie
  have hby : bytesOf P e = ie.bytes := by simp [bytesOf, hie]
  rcases hx.kind with ⟨d, hd, hds, hl, hf⟩ | ⟨k, q, z, hd, rfl, rfl, hq, hzz, hn, hzs⟩
  · have hf' := hf w (fun _ => rfl)
    have hl' := hl w
    clear hf hl
    rcases hds with ⟨e', rfl⟩ | rfl
    · cases base
      · simp [Builtin.append_, run_underlying ht, run_underlying hd, hsz, hl', h, hf']
      · simp [Builtin.append_, run_underlying ht, run_underlying hd, hsz, hl', h, hf']
    · cases base
      · simp [Builtin.append_, run_underlying ht, run_underlying hd, hsz, hl', h, hf']
      · simp [Builtin.append_, run_underlying ht, run_underlying hd, hsz, hl', h, hf']
  · have hw : IntKind.i64.wrap (m : Int) = (m : Int) := wrapN hq
    rw [hie] at hzz
    have hzz' : ie.zero = some z := by simpa using hzz
    have hnb : ¬ (281474976710656 < (m : Int) * (ie.bytes : Int)) := by
      rw [hby] at hb
      rw [← Int.natCast_mul]
      generalize m * ie.bytes = q at hb ⊢
      omega
    have hsi : ie.size = szOf P e := by simp [szOf, hie]
    by_cases hm0 : m = 0
    · subst hm0
      have hnil : news = [] := by
        have := congrArg Array.size hn
        rw [Builtin.zeroCells] at this
        simpa using this
      subst hnil
      have hw0 : IntKind.i64.wrap 0 = 0 := hw
      have h' : sLen ≤ sCap := h
      cases base <;> simp [Builtin.append_, run_underlying ht, run_underlying hd, hsz, typeInfo, hie, Go.asInt, asIntOf, hw0, h', storeCells]
    · have hms : ¬ (m = 0 ∨ szOf P e = 0) := by omega
      cases base <;> simp [show ¬ ((m : Int) < 0) by omega, Builtin.append_, run_underlying ht, run_underlying hd, hsz, typeInfo, zeroValue, hie, hzz', Go.asInt, asIntOf, hw, hnb, h, hms, hm0, hz, Function.comp_def, ← hn]
      exact fun hc => absurd hc (Nat.mul_ne_zero hm0 hz)

set_option maxRecDepth 4000 in
theorem run_append_out {t u e ty : TypeId} {x : Value} {m sLen sCap : Nat} {news olds : List Value} {base : Option Addr} {z : Value} (ht : P.underlying t = some (.slice e)) (hz : szOf P e ≠ 0)
    (hx : Adds P e u x m news w) (hzv : ((P.info? e).bind (·.zero)) = some z) (h : ¬ (sLen + m ≤ sCap)) (hb : (sLen + m + 1000) * bytesOf P e ≤ 70368744177664) (hby0 : sLen + m ≤ 70368744177664)
    (ho : (Builtin.firstCells (szOf P e) sLen (.slice base sLen sCap)).run P w.drew = .ok olds.toArray w.drew) :
    (Builtin.append_ #[t, u] ty #[.slice base sLen sCap, x]).run P w =
      .ok (.slice (some ⟨w.heap.size, 0, none⟩) (sLen + m) (grownCap w (sLen + m) sCap e))
        (w.drew.alloc (.cells ((olds ++ news).toArray ++ Builtin.zeroCells z.cells (grownCap w (sLen + m) sCap e - (sLen + m))) e)) := by
  have hsz := run_sizeOf' (P := P) hz
  have hie : ∃ i, P.info? e = some i := by
    unfold szOf at hz
    cases hi : P.info? e with
    | none => rw [hi] at hz; simp at hz
    | some i => exact ⟨i, rfl⟩
  obtain ⟨ie, hie⟩ := hie
  rw [hie] at hzv
  have hzv' : ie.zero = some z := by simpa using hzv
  have hby : bytesOf P e = ie.bytes := by simp [bytesOf, hie]
  have hfit : Builtin.nextslicecap (sLen + m) sCap * ie.bytes ≤ 281474976710656 := growslice_fits (by omega) (by
    rw [← hby]
    have : (sLen + m) * bytesOf P e ≤ (sLen + m + 1000) * bytesOf P e := Nat.mul_le_mul_right _ (by omega)
    omega)
  have h48 : ¬ (281474976710656 < Builtin.nextslicecap (sLen + m) sCap * ie.bytes) := by omega
  have h63 : ¬ (9223372036854775807 < (sLen : Int) + (m : Int)) := by omega
  rcases hx.kind with ⟨d, hd, hds, hl, hf⟩ | ⟨k, q, z', hd, rfl, rfl, hq, hzz, hn, hzs⟩
  · have hf' := hf w.drew (fun _ => rfl)
    rcases hds with ⟨e', rfl⟩ | rfl
    · simp [Builtin.append_, run_underlying ht, run_underlying hd, hsz, typeInfo, zeroValue, hie, hzv', hl, h, h63, h48, Question.forced, hf', ho, newRow, grownCap, Function.comp_def]
      rw [← List.append_toArray, Array.append_assoc]
    · simp [Builtin.append_, run_underlying ht, run_underlying hd, hsz, typeInfo, zeroValue, hie, hzv', hl, h, h63, h48, Question.forced, hf', ho, newRow, grownCap, Function.comp_def]
      rw [← List.append_toArray, Array.append_assoc]
  · have hw : IntKind.i64.wrap (m : Int) = (m : Int) := wrapN hq
    have hzz2 : z' = z := by rw [hie] at hzz; simp at hzz; rw [hzv'] at hzz; exact (Option.some.inj hzz).symm
    subst hzz2
    have hnb : ¬ (281474976710656 < (m : Int) * (ie.bytes : Int)) := by
      rw [hby] at hb
      have h1 : m * ie.bytes ≤ (sLen + m + 1000) * ie.bytes := Nat.mul_le_mul_right _ (by omega)
      rw [← Int.natCast_mul]
      generalize m * ie.bytes = q at h1 ⊢
      generalize (sLen + m + 1000) * ie.bytes = q2 at h1 hb
      omega
    by_cases hm0 : m = 0
    · subst hm0
      have hnil : news = [] := by
        have := congrArg Array.size hn
        rw [Builtin.zeroCells] at this
        simpa using this
      subst hnil
      simp only [Nat.add_zero] at h h48 h63
      have hw0 : IntKind.i64.wrap 0 = 0 := hw
      simp [hw0, Builtin.append_, run_underlying ht, run_underlying hd, hsz, typeInfo, zeroValue, hie, hzv', Go.asInt, asIntOf, hw, h, h48, Question.forced, ho, newRow, grownCap, Function.comp_def]
      omega
    · simp [show ¬ ((m : Int) < 0) by omega, Builtin.append_, run_underlying ht, run_underlying hd, hsz, typeInfo, zeroValue, hie, hzv', Go.asInt, asIntOf, hw, hnb, h, h63, h48, hm0, hz, Question.forced, ho, newRow, grownCap, Function.comp_def, ← hn]
      rw [if_neg (Nat.mul_ne_zero hm0 hz), ← List.append_toArray, Array.append_assoc]
end
end Go.Proofs.YtbnpclndiichcaaGreatDoor.Eng
end
section
set_option linter.unusedVariables false
set_option linter.unusedSimpArgs false
namespace Go.Proofs.YtbnpclndiichcaaGreatDoor.Eng
open Go
set_option linter.unusedVariables false
set_option linter.unusedSimpArgs false

section
variable {P : Program} {gives : FuncId → Bool} {C : CL}
variable {B : Base} {n : Nat} {F : Fz} {ρ : Rho} {s : S} {a : Act} {w : World} {o : Oper} {K : S → Prop} {T : Nat → Prop}

/-- Values that are the cells of elements. -/
structure NewC (w : World) (F : Fz) (ρ : Rho) (es : Nat) (ys : List V) (news : List Value) : Prop where
  len : news.length = ys.length * es
  wid : ∀ (i : Nat) (y : V), ys[i]? = some y → y.cells.length = es ∧ flat y = true
  cell : ∀ (i : Nat) (y : V) (j : Nat), ys[i]? = some y → j < es → ∃ c, news[i * es + j]? = some c ∧ okC c = true ∧ ∀ z, y.cells[j]? = some z → VR (clOf w) F ρ z c
  one : ∀ c ∈ news, okC c = true

theorem divmod_lt {j m es : Nat} (h : j < m * es) : j / es < m ∧ j % es < es ∧ j / es * es + j % es = j := by
  have he : 0 < es := by
    cases es with
    | zero => omega
    | succ e => omega
  refine ⟨(Nat.div_lt_iff_lt_mul he).2 h, Nat.mod_lt _ he, ?_⟩
  rw [Nat.mul_comm]; exact Nat.div_add_mod j es

/-- The cells of a row, as values. -/
theorem Row.cells {es : Nat} {xs : List V} {g p : Nat} {frz : Bool} (h : Row w F ρ es xs g p frz) :
    ∃ cs : List Value, NewC w F ρ es xs cs ∧ ∀ j v, cs[j]? = some v → clOf w g (p + j) = some v := by
  have key : ∀ j, j < xs.length * es → ∃ c, clOf w g (p + j) = some c ∧ okC c = true := fun j hj => by
    obtain ⟨h1, h2, h3⟩ := divmod_lt hj
    obtain ⟨c, c1, c2, _⟩ := h.cell (j / es) _ (j % es) (List.getElem?_eq_getElem h1) h2
    rw [Nat.add_assoc, h3] at c1
    exact ⟨c, c1, c2⟩
  have get : ∀ j v, ((List.range (xs.length * es)).map fun j => (clOf w g (p + j)).getD undef)[j]? = some v → clOf w g (p + j) = some v := fun j v hv => by
    rw [List.getElem?_map] at hv
    cases hr : (List.range (xs.length * es))[j]? with
    | none => rw [hr] at hv; cases hv
    | some t =>
      rw [hr] at hv
      obtain ⟨h1, h2⟩ := List.getElem?_eq_some_iff.1 hr
      simp only [List.getElem_range] at h2
      subst h2
      simp only [Option.map_some, Option.some.injEq] at hv
      obtain ⟨c, c1, _⟩ := key j (by simpa using h1)
      rw [c1] at hv ⊢
      simpa using hv
  refine ⟨(List.range (xs.length * es)).map fun j => (clOf w g (p + j)).getD undef, ⟨by simp, h.wid, fun i y j hy hj => ?_, fun c hc => ?_⟩, get⟩
  · obtain ⟨c, c1, c2, c3, _⟩ := h.cell i y j hy hj
    have := idx_lt (List.getElem?_eq_some_iff.1 hy).1 hj
    refine ⟨c, ?_, c2, c3⟩
    rw [List.getElem?_map, List.getElem?_range this]
    simp [← Nat.add_assoc, c1]
  · obtain ⟨j, hj⟩ := List.getElem?_of_mem hc
    have h1 := get j c hj
    have h2 : j < xs.length * es := by
      have := (List.getElem?_eq_some_iff.1 hj).1
      simpa using this
    obtain ⟨c', c1, c2⟩ := key j h2
    rw [c1] at h1; cases h1; exact c2

/-- A slice's first elements, read. -/
theorem run_first {es m cap g p : Nat} {ad : Option Addr} {cs : List Value} (hl : cs.length = m * es) (hc : m ≤ cap) (ha : cap = 0 ∨ ad = some ⟨g, p, none⟩) (h : ∀ j v, cs[j]? = some v → clOf w g (p + j) = some v) :
    (Builtin.firstCells es m (.slice ad m cap)).run P w = .ok cs.toArray w := by
  rcases ha with h0 | h0
  · have : m = 0 := by omega
    subst this
    have : cs = [] := List.eq_nil_of_length_eq_zero (by simpa using hl)
    subst this
    cases ad with
    | none => exact run_firstCells_none w es 0 0 cap
    | some b => exact run_firstCells_some w es 0 b 0 cap [] (by simp) (fun j v hv => by simp at hv)
  · subst h0
    exact run_firstCells_some w es m _ m cap cs hl (fun j v hv => by rw [add_lit]; exact h j v hv)

theorem cutL_get {xs : List V} {off len i : Nat} (hi : i < len) : (cutL xs off len)[i]? = xs[off + i]? := by
  unfold cutL
  rw [List.getElem?_take, if_pos hi, List.getElem?_drop]

/-- Rows end to end. -/
theorem NewC.app {es : Nat} {xs ys : List V} {cs ds : List Value} (h : NewC w F ρ es xs cs) (h' : NewC w F ρ es ys ds) : NewC w F ρ es (xs ++ ys) (cs ++ ds) := by
  refine ⟨by rw [List.length_append, List.length_append, h.len, h'.len, Nat.add_mul], fun i y hy => ?_, fun i y j hy hj => ?_, fun c hc => ?_⟩
  · rw [List.getElem?_append] at hy
    split at hy
    · exact h.wid i y hy
    · exact h'.wid _ y hy
  · rw [List.getElem?_append] at hy
    split at hy
    · rename_i hi
      obtain ⟨c, c1, c2⟩ := h.cell i y j hy hj
      exact ⟨c, by rw [List.getElem?_append_left (by rw [h.len]; exact idx_lt hi hj)]; exact c1, c2⟩
    · rename_i hi
      obtain ⟨c, c1, c2⟩ := h'.cell _ y j hy hj
      refine ⟨c, ?_, c2⟩
      have e : i * es + j = xs.length * es + ((i - xs.length) * es + j) := by
        have : i = xs.length + (i - xs.length) := by omega
        conv => lhs; rw [this, Nat.add_mul]
        omega
      rw [List.getElem?_append_right (by rw [h.len]; omega), h.len, e, Nat.add_sub_cancel_left]; exact c1
  · rcases List.mem_append.1 hc with hc | hc
    · exact h.one c hc
    · exact h'.one c hc

/-- Flat elements do not hang on places. -/
theorem NewC.turn {es : Nat} {ys : List V} {news : List Value} {w' : World} {F' : Fz} {ρ' : Rho} (h : NewC w F ρ es ys news) (hF : ∀ g o, F g o → F' g o) (hc : ∀ g o c, F g o → clOf w g o = some c → clOf w' g o = some c) : NewC w' F' ρ' es ys news :=
  ⟨h.len, h.wid, fun i y j hy hj => by
    obtain ⟨c, c1, c2, c3⟩ := h.cell i y j hy hj
    refine ⟨c, c1, c2, fun z hz => ?_⟩
    have hf := flat_cells (h.wid i y hy).2 hz
    exact ((c3 z hz).flatρ (ρ' := ρ') hf).mono hF hc (fun _ _ => agree.refl _), h.one⟩

theorem run_builtin {c : Call} {b : Builtin} (ho : o.op = .call c) (hc : c.callee = .builtin b) :
    ∃ ty cs, (execOp a.eval o).run P w = (builtin b c.argTypes ty cs (c.args.map a.eval)).run P w := by
  refine ⟨o.type, c.args.map fun | .const _ => true | _ => false, ?_⟩
  simp only [execOp, ho, resolve, hc, Sem.run_bind, Sem.run_pure, Result.andThen_ok, invoke]
  rfl

theorem run_append_op {c : Call} {r : Value} {t u : TypeId} {x y : Value} {w' : World} (ho : o.op = .call c) (hc : c.callee = .builtin .append) (hT : ∀ ty, (Builtin.append_ c.argTypes ty (c.args.map a.eval)).run P w = .ok r w') :
    (execOp a.eval o).run P w = .ok (.value r) w' := by
  obtain ⟨ty, cs, h⟩ := run_builtin (P := P) (w := w) (a := a) ho hc
  rw [h]
  simp [Go.builtin, hT ty]

theorem Row.new {w' : World} {F' : Fz} {ρ' : Rho} {es : Nat} {xs : List V} {cs : List Value} {g p : Nat} {frz : Bool} (h : NewC w F ρ es xs cs) (hF : ∀ g o, F g o → F' g o) (hc : ∀ g o c, F g o → clOf w g o = some c → clOf w' g o = some c)
    (hcl : ∀ j v, cs[j]? = some v → clOf w' g (p + j) = some v) (hf : frz = true → ∀ j, j < cs.length → F' g (p + j)) : Row w' F' ρ' es xs g p frz :=
  ⟨h.wid, fun i x j hx hj => by
    obtain ⟨c, c1, c2, c3⟩ := h.cell i x j hx hj
    have hfl := (h.wid i x hx).2
    refine ⟨c, by rw [Nat.add_assoc]; exact hcl _ _ c1, c2, fun y hy => ((c3 y hy).flatρ (ρ' := ρ') (flat_cells hfl hy)).mono hF hc (fun _ _ => agree.refl _), fun hz => ?_⟩
    rw [Nat.add_assoc]
    exact hf hz _ (List.getElem?_eq_some_iff.1 c1).1⟩

theorem Row.app {es : Nat} {xs ys : List V} {g p : Nat} {frz : Bool} (h : Row w F ρ es xs g p frz) (h' : Row w F ρ es ys g (p + xs.length * es) frz) : Row w F ρ es (xs ++ ys) g p frz := by
  refine ⟨fun i y hy => ?_, fun i y j hy hj => ?_⟩
  · rw [List.getElem?_append] at hy
    split at hy
    · exact h.wid i y hy
    · exact h'.wid _ y hy
  · rw [List.getElem?_append] at hy
    split at hy
    · exact h.cell i y j hy hj
    · rename_i hi
      have := h'.cell _ y j hy hj
      rwa [show p + xs.length * es + (i - xs.length) * es + j = p + i * es + j by
        have : i = xs.length + (i - xs.length) := by omega
        conv => rhs; rw [this, Nat.add_mul]
        omega] at this

/-- Append in place: into the room behind a row. -/
theorem append_in_core {c : Call} {t u e : TypeId} {x : Value} {k off sLen sCap es ver m : Nat} {xs ys : List V} {frz : Bool} {ad : Option Addr} {news : List Value}
    (ho : o.op = .call c) (hc : c.callee = .builtin .append) (hts : c.argTypes = #[t, u]) (hargs : c.args.map a.eval = #[.slice ad sLen sCap, x])
    (hR : RelF B n F ρ s a w) (hl : look k s.hp = some (.arr es xs true frz ver)) (ht : P.underlying t = some (.slice e)) (hes : szOf P e = es) (hz : es ≠ 0)
    (hx : Adds P e u x m news w) (hm : m = ys.length) (hn : NewC w F ρ es ys news) (hb : m * bytesOf P e ≤ 281474976710656) (hroom : sLen + m ≤ sCap)
    (hoff : off + sLen ≤ xs.length) (hcap : sCap + off = (ρ k).cap) (ha : sCap = 0 ∨ ad = some ⟨(ρ k).ablk, (ρ k).base + off * es, none⟩) (hfz : frz = false ∨ off + sLen = xs.length)
    (hT : T k) : ∃ (F' : Fz) (w' : World), (execOp a.eval o).run P w = .ok (.value (.slice ad (sLen + m) sCap)) w' ∧ RelF B n F' (upd ρ k ⟨(ρ k).blk, (ρ k).ablk, (ρ k).base + off * es, sCap, sLen + m, es, ver + 1⟩) (s.upd k (.arr es (cutL xs off sLen ++ ys) true frz (ver + 1))) a w' ∧ Kept F ρ s w T F' (upd ρ k ⟨(ρ k).blk, (ρ k).ablk, (ρ k).base + off * es, sCap, sLen + m, es, ver + 1⟩) (s.upd k (.arr es (cutL xs off sLen ++ ys) true frz (ver + 1))) w' ∧ VR (clOf w') F' (upd ρ k ⟨(ρ k).blk, (ρ k).ablk, (ρ k).base + off * es, sCap, sLen + m, es, ver + 1⟩) (.sla k (ver + 1)) (.slice ad (sLen + m) sCap) := by
  obtain ⟨row, e1, e2, e3, e4⟩ := hR.hr.row hl
  obtain ⟨_, _, _, _, _, _, e7⟩ := hR.hr.sr k _ hl
  have hag0 : (ρ k).blk = (ρ k).blk := rfl
  have hp1 : off * es + sLen * es = (off + sLen) * es := (Nat.add_mul _ _ _).symm
  have hp2 : (off + sLen) * es + m * es = (off + sLen + m) * es := (Nat.add_mul _ _ _).symm
  have hp5 : sLen * es + m * es = (sLen + m) * es := (Nat.add_mul _ _ _).symm
  have hp3 : (off + sLen + m) * es ≤ (ρ k).cap * es := Nat.mul_le_mul_right _ (by omega)
  have hp4 : (off + sLen) * es ≤ xs.length * es := Nat.mul_le_mul_right _ hoff
  have hp6 : sCap * es + off * es = (ρ k).cap * es := by rw [← Nat.add_mul, hcap]
  have hnl : news.length = m * es := by rw [hn.len, hm]
  have howns : ∀ q, owns ρ k (.arr es xs true frz ver) (ρ k).ablk q ↔ ((ρ k).base ≤ q ∧ ((frz = false ∧ q < (ρ k).base + xs.length * es) ∨ ((ρ k).base + xs.length * es ≤ q ∧ q < (ρ k).base + (ρ k).cap * es))) := fun q => by
    simp only [owns, true_and]
  have hxc : xs.length * es ≤ (ρ k).cap * es := Nat.mul_le_mul_right _ e4
  generalize hg : (ρ k).ablk = g at *
  generalize hb0 : (ρ k).base = b0 at *
  generalize hcp : (ρ k).cap = cp at *
  have hin : ∀ q, b0 + (off + sLen) * es ≤ q → q < b0 + (off + sLen + m) * es → owns ρ k (.arr es xs true frz ver) g q := fun q h1 h2 => by
    rw [howns]
    refine ⟨by omega, ?_⟩
    rcases hfz with h | h
    · by_cases hq : q < b0 + xs.length * es
      · exact .inl ⟨h, hq⟩
      · exact .inr ⟨by omega, by omega⟩
    · rw [h] at h1; exact .inr ⟨by omega, by omega⟩
  have hsome : ∀ q, b0 ≤ q → q < b0 + cp * es → (clOf w g q).isSome = true := fun q h1 h2 => by
    by_cases hq : q < b0 + xs.length * es
    · obtain ⟨d1, d2, d3⟩ := divmod_lt (j := q - b0) (m := xs.length) (es := es) (by omega)
      obtain ⟨c, c1, _⟩ := row.cell ((q - b0) / es) _ ((q - b0) % es) (List.getElem?_eq_getElem d1) d2
      rw [show b0 + (q - b0) / es * es + (q - b0) % es = q by omega] at c1
      rw [c1]; rfl
    · exact e7 rfl q (by omega) h2
  have hrun : (execOp a.eval o).run P w = .ok (.value (.slice ad (sLen + m) sCap)) (w.setCells g (b0 + (off + sLen) * es) news) := by
    refine run_append_op (t := t) (u := u) (x := x) (y := x) ho hc fun ty => ?_
    rw [hts, hargs]
    rw [run_append_in (P := P) (w := w) (t := t) (u := u) (e := e) (ty := ty) (x := x) (m := m) (sLen := sLen) (sCap := sCap) (news := news) (base := ad) ht (by rw [hes]; exact hz) hx hb hroom, hes]
    rcases ha with h2 | h2
    · have hm0 : m = 0 := by omega
      have : news = [] := List.eq_nil_of_length_eq_zero (by rw [hnl, hm0, Nat.zero_mul])
      subst this
      cases ad <;> simp [storeCells, World.setCells]
    · subst h2
      simp only [add_lit]
      rw [show b0 + off * es + sLen * es = b0 + (off + sLen) * es by omega]
      have := run_storeCells_cells (P := P) g (b0 + (off + sLen) * es) news 0 w (fun j hj => by rw [Nat.add_zero]; exact hsome _ (by omega) (by omega))
        (fun j hj => by rw [Nat.add_zero]; exact (hR.hr.free k _ _ _ hl (hin _ (by omega) (by omega))).2.1) hn.one
      rw [Nat.add_zero] at this
      simp [this]
  have hcut : (cutL xs off sLen).length = sLen := cutL_length hoff
  have hF1 : ∀ q o, F q o → ¬ owns ρ k (.arr es xs true frz ver) q o := fun q o hf hw => (hR.hr.free k _ _ _ hl hw).1 hf
  have hsame : ∀ q p, ¬ owns ρ k (.arr es xs true frz ver) q p → clOf (w.setCells g (b0 + (off + sLen) * es) news) q p = clOf w q p := fun q p hno => by
    refine setCells_out _ _ _ _ _ _ fun he => ?_
    subst he
    rw [hnl]
    by_cases h1 : p < b0 + (off + sLen) * es
    · exact .inl h1
    · by_cases h2 : p < b0 + (off + sLen + m) * es
      · exact absurd (hin p (by omega) h2) hno
      · right; omega
  have hlast : frz = true → off + sLen = xs.length := fun h => by
    rcases hfz with h' | h'
    · rw [h] at h'; cases h'
    · exact h'
  refine ⟨fun q p => F q p ∨ (frz = true ∧ q = g ∧ b0 + xs.length * es ≤ p ∧ p < b0 + (xs.length + m) * es), _, hrun,
    (hR.turn hl _ _ _ _ w.heap.size ⟨rfl, .inr (by simp [e3])⟩ (setCells_size _ _ _ _) hsame ⟨setCells_wd _ _ _ _, fun q p => World.frozen?_setCells _ _ _ _ _⟩ (fun q hno => ?_) hR.fr.size
      (fun q hf => Nat.lt_irrefl _ (hR.hr.fin _ _ hf)) (fun j y' q hy' ho' => Nat.lt_irrefl _ (hR.hr.free j y' _ q hy' ho').2.2) (fun _ _ h => .inl h) (fun q p hf => ?_) ?_ (fun q p hw => ?_)),
    .turn hT hl (fun _ _ h => .inl h) (Nat.le_of_eq (setCells_size _ _ _ _).symm) fun q p _ hno => hsame q p hno, .sla (by simp [upd_same]) fun _ => ?_⟩
  · by_cases he : q = g
    · subst he
      by_cases hm0 : m = 0
      · have : news = [] := List.eq_nil_of_length_eq_zero (by rw [hnl, hm0, Nat.zero_mul])
        subst this; rfl
      · have : 0 < m * es := Nat.mul_pos (by omega) (by omega)
        exact absurd (hin (b0 + (off + sLen) * es) (Nat.le_refl _) (by omega)) (hno _)
    · exact setCells_heap _ _ he _ _ _
  · rcases hf with h1 | ⟨h1, h2, h3, h4⟩
    · exact .inl h1
    · subst h2
      refine .inr (.inl ?_)
      rw [howns]
      have : (xs.length + m) * es = (off + sLen + m) * es := by rw [hlast h1]
      exact ⟨by omega, .inr ⟨h3, by omega⟩⟩
  · have hrow : Row (w.setCells g (b0 + (off + sLen) * es) news) (fun q p => F q p ∨ (frz = true ∧ q = g ∧ b0 + xs.length * es ≤ p ∧ p < b0 + (xs.length + m) * es))
        (upd ρ k ⟨(ρ k).blk, g, b0 + off * es, sCap, sLen + m, es, ver + 1⟩) es (cutL xs off sLen ++ ys) g (b0 + off * es) frz := by
      refine Row.app ?_ ?_
      · have r0 := row.cut off sLen
        refine ⟨r0.wid, fun i y j hy hj => ?_⟩
        obtain ⟨c, c1, c2, c3, c4⟩ := r0.cell i y j hy hj
        have hi := idx_lt (List.getElem?_eq_some_iff.1 hy).1 hj
        rw [hcut] at hi
        refine ⟨c, ?_, c2, fun z hz => ?_, fun h => .inl (c4 h)⟩
        · rw [setCells_out]; exact c1
          intro _; left; omega
        · exact ((c3 z hz).flatρ (flat_cells (r0.wid i y hy).2 hz)).mono (fun _ _ h => .inl h) (fun q p c' hf hc' => by rw [hsame q p (hF1 q p hf)]; exact hc') (fun _ _ => agree.refl _)
      · rw [hcut, show b0 + off * es + sLen * es = b0 + (off + sLen) * es by omega]
        refine Row.new hn (fun _ _ h => .inl h) (fun q p c' hf hc' => by rw [hsame q p (hF1 q p hf)]; exact hc') (fun j v hv => ?_) (fun h j hj => .inr ⟨h, rfl, ?_, ?_⟩)
        · exact setCells_in _ _ _ _ (fun i hi => hsome _ (by omega) (by omega)) j v hv
        · rw [← hlast h]; omega
        · rw [← hlast h]; omega
    show _ ∧ _
    rw [upd_same]
    refine ⟨rfl, by rw [List.length_append, hcut, hm], rfl, by rw [List.length_append, hcut, ← hm]; exact hroom, hrow.wid, hrow.cell, fun _ p h1 h2 => ?_⟩
    rw [List.length_append, hcut, ← hm] at h1
    simp only at h1 h2
    rw [setCells_out]
    · exact hsome p (by omega) (by omega)
    · intro _; right; omega
  · simp only [owns, upd_same, List.length_append, hcut, ← hm] at hw
    obtain ⟨h1, h2, h3⟩ := hw
    subst h1
    have h4 : owns ρ k (.arr es xs true frz ver) q p := by
      rw [howns]
      refine ⟨by omega, ?_⟩
      rcases h3 with ⟨h3, h4⟩ | ⟨_, h3, h4⟩
      · by_cases hq : p < b0 + xs.length * es
        · exact .inl ⟨h3, hq⟩
        · exact .inr ⟨by omega, by omega⟩
      · by_cases hq : p < b0 + xs.length * es
        · rcases hfz with h5 | h5
          · exact .inl ⟨h5, hq⟩
          · rw [← h5] at hq; omega
        · exact .inr ⟨by omega, by omega⟩
    refine ⟨fun hf => ?_, .inl h4⟩
    rcases hf with hf | ⟨f1, _, f3, f4⟩
    · exact hF1 _ _ hf h4
    · rcases h3 with ⟨h3, _⟩ | ⟨_, h3, _⟩
      · rw [h3] at f1; cases f1
      · have : (xs.length + m) * es = (off + sLen + m) * es := by rw [hlast f1]
        omega
  · rw [upd_same]
    exact ⟨rfl, rfl, ha⟩
theorem append_in {c : Call} {t u e : TypeId} {x : Value} {k off sLen sCap es ver m : Nat} {xs ys : List V} {frz : Bool} {ad : Option Addr} {news : List Value}
    (ho : o.op = .call c) (hc : c.callee = .builtin .append) (hts : c.argTypes = #[t, u]) (hargs : c.args.map a.eval = #[.slice ad sLen sCap, x])
    (hR : RelF B n F ρ s a w) (hl : look k s.hp = some (.arr es xs true frz ver)) (ht : P.underlying t = some (.slice e)) (hes : szOf P e = es) (hz : es ≠ 0)
    (hx : Adds P e u x m news w) (hm : m = ys.length) (hn : NewC w F ρ es ys news) (hb : m * bytesOf P e ≤ 281474976710656) (hroom : sLen + m ≤ sCap)
    (hoff : off + sLen ≤ xs.length) (hcap : sCap + off = (ρ k).cap) (ha : sCap = 0 ∨ ad = some ⟨(ρ k).ablk, (ρ k).base + off * es, none⟩) (hfz : frz = false ∨ off + sLen = xs.length)
    (hT : T k) (hk : fin (envP P n gives C) o (s.upd k (.arr es (cutL xs off sLen ++ ys) true frz (ver + 1))) (.sla k (ver + 1)) K) : OpOk P B n F ρ s T o a w K := by
  obtain ⟨F', w', h1, h2, h3, h4⟩ := append_in_core (T := T) ho hc hts hargs hR hl ht hes hz hx hm hn hb hroom hoff hcap ha hfz hT
  exact okTurn hk h1 h2 h3 h4
/-- Append in place, where the row is looked at behind it. -/
theorem append_keep {c : Call} {t u e : TypeId} {x : Value} {k sCap es ver m : Nat} {xs ys : List V} {frz : Bool} {ad : Option Addr} {news : List Value}
    (ho : o.op = .call c) (hc : c.callee = .builtin .append) (hts : c.argTypes = #[t, u]) (hargs : c.args.map a.eval = #[.slice ad xs.length sCap, x])
    (hR : RelF B n F ρ s a w) (hl : look k s.hp = some (.arr es xs true frz ver)) (ht : P.underlying t = some (.slice e)) (hes : szOf P e = es) (hz : es ≠ 0)
    (hx : Adds P e u x m news w) (hm : m = ys.length) (hn : NewC w F ρ es ys news) (hb : m * bytesOf P e ≤ 281474976710656) (hroom : xs.length + m ≤ sCap)
    (hcap : sCap = (ρ k).cap) (ha : sCap = 0 ∨ ad = some ⟨(ρ k).ablk, (ρ k).base, none⟩)
    (hT : T k) (hk : fin (envP P n gives C) o (s.keep k ver xs.length (.arr es (xs ++ ys) true frz (ver + 1))) (.sla k (ver + 1)) K) : OpOk P B n F ρ s T o a w K := by
  obtain ⟨row, e1, e2, e3, e4⟩ := hR.hr.row hl
  obtain ⟨F', w', h1, h2, h3, h4⟩ := append_in_core (T := T) (off := 0) (sLen := xs.length) ho hc hts hargs hR hl ht hes hz hx hm hn hb hroom (by omega) (by omega) (by rw [Nat.zero_mul, Nat.add_zero]; exact ha) (.inr (Nat.zero_add _)) hT
  rw [show cutL xs 0 xs.length = xs by simp [cutL]] at h2 h3
  refine okTurn hk h1 ⟨h2.size, h2.defers, fun q v hv => ?_, h2.hr, h2.fr⟩ ⟨h3.fup, h3.size, h3.cell, h3.own⟩ h4
  simp only [S.keep] at hv
  rw [look_map (keepV k ver xs.length)] at hv
  cases hu : look q s.tm with
  | none => rw [hu] at hv; cases hv
  | some v0 =>
    rw [hu] at hv; cases hv
    have hold := h2.tm q v0 hu
    cases v0 with
    | sla j vv =>
      simp only [keepV]
      cases hb : Nat.beq j k && Nat.beq vv ver
      · exact hold
      · simp only [Bool.and_eq_true] at hb
        have hj := Nat.eq_of_beq_eq_true hb.1
        have hvv := Nat.eq_of_beq_eq_true hb.2
        subst hj; subst hvv
        simp only [cond_true]
        have h0 := hR.tm q _ hu
        generalize a.tmps.getD q undef = c0 at h0 ⊢
        cases h0 with
        | sla hv' h' =>
          obtain ⟨f1, f2, f3⟩ := h' e3.symm
          refine .slm (by rw [upd_same]; exact Nat.le_refl _) fun _ => ?_
          rw [upd_same]
          refine ⟨by rw [f1, e2], by simp, by simp; omega, ?_⟩
          simpa using f3
    | _ => exact hold

end
end Go.Proofs.YtbnpclndiichcaaGreatDoor.Eng
end
section
set_option linter.unusedVariables false
set_option linter.unusedSimpArgs false
namespace Go.Proofs.YtbnpclndiichcaaGreatDoor.Eng
open Go
set_option linter.unusedVariables false
set_option linter.unusedSimpArgs false

section
variable {P : Program} {gives : FuncId → Bool} {C : CL}
variable {B : Base} {n : Nat} {F : Fz} {ρ : Rho} {s : S} {a : Act} {w : World} {o : Oper} {K : S → Prop} {T : Nat → Prop}

theorem cell_new (w : World) (cv : Array Value) (t : TypeId) (p : Nat) : clOf (w.alloc (.cells cv t)) w.heap.size p = cv[p]? := World.cell?_alloc_mark w cv t (0, 0) p

theorem zeroCells_size (z : Array Value) (m : Nat) : (Builtin.zeroCells z m).size = m * z.size := by simp [Builtin.zeroCells]

/-- A row that has outgrown its room. -/
theorem run_grow {c : Call} {t u e : TypeId} {x : Value} {sLen sCap es m g p : Nat} {xs ys : List V} {frz : Bool} {ad : Option Addr} {news : List Value} {z : Value}
    (ho : o.op = .call c) (hc : c.callee = .builtin .append) (hts : c.argTypes = #[t, u]) (hargs : c.args.map a.eval = #[.slice ad sLen sCap, x])
    (ht : P.underlying t = some (.slice e)) (hes : szOf P e = es) (hz : es ≠ 0) (hzv : ((P.info? e).bind (·.zero)) = some z)
    (hx : Adds P e u x m news w) (hm : m = ys.length) (hn : NewC w F ρ es ys news) (hr : roomOk (sLen + m) (bytesOf P e) = true) (hroom : ¬ sLen + m ≤ sCap) (hb1 : 0 < bytesOf P e)
    (row : Row w F ρ es xs g p frz) (hlen : sLen = xs.length) (hle : sLen ≤ sCap) (ha : sCap = 0 ∨ ad = some ⟨g, p, none⟩) :
    ∃ (cv : Array Value), NewC w F ρ es (xs ++ ys) (cv.toList.take ((sLen + m) * es)) ∧ (sLen + m) * es + (grownCap w (sLen + m) sCap e - (sLen + m)) * z.cells.size = cv.size ∧
      (execOp a.eval o).run P w = .ok (.value (.slice (some ⟨w.heap.size, 0, none⟩) (sLen + m) (grownCap w (sLen + m) sCap e))) (w.drew.alloc (.cells cv e)) := by
  obtain ⟨olds, h1, h2⟩ := row.cells
  have hlo : olds.length = sLen * es := by rw [h1.len, hlen]
  have hln : news.length = m * es := by rw [hn.len, hm]
  unfold roomOk at hr
  rw [decide_eq_true_eq] at hr
  have hby : (sLen + m + 1000) * 1 ≤ (sLen + m + 1000) * bytesOf P e := Nat.mul_le_mul_left _ hb1
  refine ⟨(olds ++ news).toArray ++ Builtin.zeroCells z.cells (grownCap w (sLen + m) sCap e - (sLen + m)), ?_, ?_, ?_⟩
  · have : (((olds ++ news).toArray ++ Builtin.zeroCells z.cells (grownCap w (sLen + m) sCap e - (sLen + m))).toList.take ((sLen + m) * es)) = olds ++ news := by
      rw [Array.toList_append]
      simp only [List.take_append_of_le_length (show (sLen + m) * es ≤ (olds ++ news).length by rw [List.length_append, hlo, hln, Nat.add_mul]; exact Nat.le_refl _)]
      rw [List.take_of_length_le]
      rw [List.length_append, hlo, hln, Nat.add_mul]; exact Nat.le_refl _
    rw [this]
    exact h1.app hn
  · simp only [Array.size_append, zeroCells_size, List.size_toArray, List.length_append, hlo, hln, Nat.add_mul]
  · refine run_append_op (t := t) (u := u) (x := x) (y := x) ho hc fun ty => ?_
    rw [hts, hargs]
    exact run_append_out (P := P) (w := w) ht (by rw [hes]; exact hz) hx hzv hroom hr (by omega) (by rw [hes]; exact run_first hlo hle ha (fun j v hv => by rw [clOf_drew]; exact h2 j v hv))

theorem take_get {α : Type} {l : List α} {m i : Nat} {x : α} (h : (l.take m)[i]? = some x) : l[i]? = some x ∧ i < m := by
  rw [List.getElem?_take] at h
  split at h
  · exact ⟨h, by assumption⟩
  · cases h

/-- Append out of place: a row of our own goes to a new block. -/
theorem append_out {c : Call} {t u e : TypeId} {x : Value} {k off sLen sCap es ver m : Nat} {xs ys : List V} {own frz : Bool} {ad : Option Addr} {news : List Value} {z : Value}
    (ho : o.op = .call c) (hc : c.callee = .builtin .append) (hts : c.argTypes = #[t, u]) (hargs : c.args.map a.eval = #[.slice ad sLen sCap, x])
    (hR : RelF B n F ρ s a w) (hl : look k s.hp = some (.arr es xs own frz ver)) (ht : P.underlying t = some (.slice e)) (hes : szOf P e = es) (hz : es ≠ 0) (hzv : ((P.info? e).bind (·.zero)) = some z) (hzs : z.cells.size = es)
    (hx : Adds P e u x m news w) (hm : m = ys.length) (hn : NewC w F ρ es ys news) (hr : roomOk (sLen + m) (bytesOf P e) = true) (hroom : ¬ sLen + m ≤ sCap) (hb1 : 0 < bytesOf P e)
    (hoff : off + sLen ≤ xs.length) (hle : sLen ≤ sCap) (ha : sCap = 0 ∨ ad = some ⟨(ρ k).ablk, (ρ k).base + off * es, none⟩)
    (hT : T k) (hk : fin (envP P n gives C) o (s.upd k (.arr es (cutL xs off sLen ++ ys) own frz (ver + 1))) (.sla k (ver + 1)) K) : OpOk P B n F ρ s T o a w K := by
  obtain ⟨row, e1, e2, e3, e4⟩ := hR.hr.row hl
  have hcut : (cutL xs off sLen).length = sLen := cutL_length hoff
  obtain ⟨cv, hcv, hsz, hrun⟩ := run_grow (F := F) (ρ := ρ) ho hc hts hargs ht hes hz hzv hx hm hn hr hroom hb1 (row.cut off sLen) hcut.symm hle ha
  rw [hzs, ← Nat.add_mul] at hsz
  have hgc := grownCap_ge w (sLen + m) sCap e
  rw [show sLen + m + (grownCap w (sLen + m) sCap e - (sLen + m)) = grownCap w (sLen + m) sCap e by omega] at hsz
  have hsl : (sLen + m) * es ≤ grownCap w (sLen + m) sCap e * es := Nat.mul_le_mul_right _ hgc
  generalize grownCap w (sLen + m) sCap e = gc at *
  have hg : Grows w (w.drew.alloc (.cells cv e)) := (Grows.drew w).trans (Grows.alloc _ _)
  have hR' := hR.grow hg
  have hcl : ∀ p, clOf (w.drew.alloc (.cells cv e)) w.heap.size p = cv[p]? := fun p => cell_new w.drew cv e p
  have hfrz : ∀ p, (w.drew.alloc (.cells cv e)).frozen? ⟨w.heap.size, p, none⟩ = false := fun p => by
    have := World.frozen?_alloc_mark w.drew cv e 0 0 p
    rw [show w.drew.heap.size = w.heap.size from rfl] at this
    rw [this]; simp; try omega
  have hlt : w.heap.size < (w.drew.alloc (.cells cv e)).heap.size := by
    have : (w.drew.alloc (.cells cv e)).heap.size = w.drew.heap.size + 1 := by simp
    rw [this]; exact Nat.lt_succ_self _
  have hnf : ∀ p, ¬ F w.heap.size p := fun p hf => Nat.lt_irrefl _ (hR.hr.fin _ _ hf)
  have hno : ∀ j y p, look j s.hp = some y → ¬ owns ρ j y w.heap.size p := fun j y p hy hw => Nat.lt_irrefl _ (hR.hr.free j y _ p hy hw).2.2
  refine okTurn (F' := fun q p => F q p ∨ (frz = true ∧ q = w.heap.size ∧ p < (sLen + m) * es)) (ρ' := upd ρ k ⟨(ρ k).blk, w.heap.size, 0, gc, sLen + m, es, ver + 1⟩) hk hrun
    (hR'.turn hl _ _ _ _ w.heap.size ⟨rfl, .inr (by simp [e3])⟩ rfl (fun _ _ _ => rfl) ⟨.refl _, fun _ _ => rfl⟩ (fun _ _ => rfl) hR.fr.size hnf hno (fun _ _ h => .inl h) (fun q p hf => ?_) ?_ (fun q p hw => ?_))
    (.turn hT hl (fun _ _ h => .inl h) hg.size fun q p hlt _ => hg.cl hlt) (.sla (by simp [upd_same]) fun _ => by rw [upd_same]; exact ⟨rfl, rfl, .inr rfl⟩)
  · rcases hf with h1 | ⟨_, h2, _⟩
    · exact .inl h1
    · exact .inr (.inr ⟨h2, hlt⟩)
  · have hrow : Row (w.drew.alloc (.cells cv e)) (fun q p => F q p ∨ (frz = true ∧ q = w.heap.size ∧ p < (sLen + m) * es)) (upd ρ k ⟨(ρ k).blk, w.heap.size, 0, gc, sLen + m, es, ver + 1⟩) es (cutL xs off sLen ++ ys) w.heap.size 0 frz := by
      refine Row.new hcv (fun _ _ h => .inl h) (fun q p c' hf hc' => hg.clS hc') (fun j v hv => ?_) (fun h j hj => .inr ⟨h, rfl, ?_⟩)
      · rw [Nat.zero_add, hcl, ← Array.getElem?_toList]; exact (take_get hv).1
      · rw [List.length_take] at hj; omega
    show _ ∧ _
    rw [upd_same]
    refine ⟨rfl, by rw [List.length_append, hcut, hm], rfl, by rw [List.length_append, hcut, ← hm]; exact hgc, hrow.wid, hrow.cell, fun _ p h1 h2 => ?_⟩
    simp only at h2
    rw [hcl]
    have : p < cv.size := by omega
    simp [this]
  · simp only [owns, upd_same, List.length_append, hcut, ← hm] at hw
    obtain ⟨h1, h2, h3⟩ := hw
    subst h1
    refine ⟨fun hf => ?_, .inr ⟨rfl, hlt, hfrz p⟩⟩
    rcases hf with hf | ⟨f1, _, f3⟩
    · exact hnf p hf
    · rcases h3 with ⟨h3, _⟩ | ⟨_, h3, _⟩
      · rw [h3] at f1; cases f1
      · omega

/-- Append to a slice by content. -/
theorem append_new {c : Call} {t u e : TypeId} {x cx : Value} {es0 es m : Nat} {xs ys : List V} {news : List Value} {z : Value}
    (ho : o.op = .call c) (hc : c.callee = .builtin .append) (hts : c.argTypes = #[t, u]) (hargs : c.args.map a.eval = #[cx, x])
    (hR : RelF B n F ρ s a w) (hcx : VR (clOf w) F ρ (.sl es0 true xs) cx) (hxe : es0 = es ∨ xs = []) (ht : P.underlying t = some (.slice e)) (hes : szOf P e = es) (hz : es ≠ 0) (hzv : ((P.info? e).bind (·.zero)) = some z) (hzs : z.cells.size = es)
    (hx : Adds P e u x m news w) (hm : m = ys.length) (hn : NewC w F ρ es ys news) (hr : roomOk (xs.length + ys.length) (bytesOf P e) = true) (hb1 : 0 < bytesOf P e)
    (hT : TD T o) (hk : fresh (envP P n gives C) o s (.arr es (xs ++ ys) true (!xs.isEmpty && ys.isEmpty) 0) (fun k => .sla k 0) K) : OpOk P B n F ρ s T o a w K := by
  have hcx' : VR (clOf w) F ρ (.sl es true xs) cx := by
    rcases hxe with h | h
    · subst h; exact hcx
    · subst h; exact hcx.nilEs
  obtain ⟨ad, cap, g, p, rfl, hle, ha, row⟩ := row_of hR.hr (tm := []) hcx' (xs := xs) rfl
  have hcap : cap = xs.length := by
    cases hcx' with
    | sl cf hn' hc' hf ha' hw hF hv => rw [hf rfl]
  have row : Row w F ρ es xs g p true := row
  by_cases hm0 : m = 0
  · have hy : ys = [] := List.eq_nil_of_length_eq_zero (by omega)
    subst hy
    have hnn : news = [] := List.eq_nil_of_length_eq_zero (by rw [hn.len]; simp)
    subst hnn
    subst hm0
    have hrun : (execOp a.eval o).run P w = .ok (.value (.slice ad xs.length cap)) w := by
      refine run_append_op (t := t) (u := u) (x := x) (y := x) ho hc fun ty => ?_
      rw [hts, hargs]
      rw [run_append_in (P := P) (w := w) (t := t) (u := u) (e := e) (ty := ty) (x := x) (m := 0) (sLen := xs.length) (sCap := cap) (news := []) (base := ad) ht (by rw [hes]; exact hz) hx (by rw [Nat.zero_mul]; exact Nat.zero_le _) (by omega)]
      cases ad <;> simp [storeCells]
    refine okFresh (F := F) (ρ := ρ) (c := .slice ad xs.length cap) (l := ⟨0, g, p, cap, xs.length, es, 0⟩) hT hk hrun (fun k hkk h64 => ?_) (.refl w) (fun k => .sla (by simp [upd_same]) fun _ => by rw [upd_same]; exact ⟨rfl, rfl, ha⟩)
    have hno : ∀ q i, ¬ owns (upd ρ k ⟨0, g, p, cap, xs.length, es, 0⟩) k (.arr es (xs ++ []) true (!xs.isEmpty && ([] : List V).isEmpty) 0) q i := fun q i hw => by
      simp only [owns, upd_same, List.append_nil, hcap] at hw
      obtain ⟨h1, h2, h3 | h3⟩ := hw
      · cases xs with
        | nil => simp at h3; omega
        | cons x r => simp at h3
      · omega
    refine hR.bind k _ _ ?_ (fun q i hw => absurd hw (hno q i)) (fun q i hw => absurd hw (hno q i)) (fun q i hw => absurd hw (hno q i)) h64
    show _ ∧ _
    rw [upd_same, List.append_nil]
    refine ⟨rfl, rfl, rfl, hle, row.wid, fun i y j hy hj => ?_, fun _ q h1 h2 => ?_⟩
    · obtain ⟨c', c1, c2, c3, c4⟩ := row.cell i y j hy hj
      exact ⟨c', c1, c2, fun v hv => (c3 v hv).flatρ (flat_cells (row.wid i y hy).2 hv), fun _ => c4 rfl⟩
    · rw [hcap] at h2; simp only at h1 h2; omega
  · have hroom : ¬ xs.length + m ≤ cap := by omega
    obtain ⟨cv, hcv, hsz, hrun⟩ := run_grow (F := F) (ρ := ρ) ho hc hts hargs ht hes hz hzv hx hm hn (by rw [hm]; exact hr) hroom hb1 row rfl hle ha
    rw [hzs, ← Nat.add_mul] at hsz
    have hgc := grownCap_ge w (xs.length + m) cap e
    rw [show xs.length + m + (grownCap w (xs.length + m) cap e - (xs.length + m)) = grownCap w (xs.length + m) cap e by omega] at hsz
    have hfz : (!xs.isEmpty && ys.isEmpty) = false := by
      cases ys with
      | nil => exact absurd hm hm0
      | cons y r => simp
    rw [hfz] at hk
    have hlen : (xs ++ ys).length = xs.length + m := by rw [List.length_append, hm]
    refine okFresh (F := F) (ρ := ρ) (c := .slice (some ⟨w.heap.size, 0, none⟩) (xs.length + m) (grownCap w (xs.length + m) cap e)) (l := ⟨0, w.heap.size, 0, grownCap w (xs.length + m) cap e, (xs ++ ys).length, es, 0⟩) hT hk hrun
      (fun k hkk h64 => (hR.grow (Grows.drew w)).newRow k es (xs ++ ys) cv e (0, 0) _ (by rw [hlen]; exact hgc) (.inl rfl) (by rw [← hsz]; exact Nat.le_refl _) hcv.wid (fun i x j hx hj => ?_) h64) ((Grows.drew w).trans (.alloc _ _)) (fun k => by rw [hlen]; exact .slaNew)
    obtain ⟨c', c1, c2, c3⟩ := hcv.cell i x j hx hj
    exact ⟨c', by rw [← Array.getElem?_toList]; exact (take_get c1).1, c2, c3⟩
/-- Append of a row that does not fit: a new row, the elder one stays. -/
theorem append_fresh {c : Call} {t u e : TypeId} {x : Value} {k sCap es ver m : Nat} {xs ys : List V} {own frz : Bool} {ad : Option Addr} {news : List Value} {z : Value}
    (ho : o.op = .call c) (hc : c.callee = .builtin .append) (hts : c.argTypes = #[t, u]) (hargs : c.args.map a.eval = #[.slice ad xs.length sCap, x])
    (hR : RelF B n F ρ s a w) (hl : look k s.hp = some (.arr es xs own frz ver)) (ht : P.underlying t = some (.slice e)) (hes : szOf P e = es) (hz : es ≠ 0) (hzv : ((P.info? e).bind (·.zero)) = some z) (hzs : z.cells.size = es)
    (hx : Adds P e u x m news w) (hm : m = ys.length) (hn : NewC w F ρ es ys news) (hr : roomOk (xs.length + m) (bytesOf P e) = true) (hroom : ¬ xs.length + m ≤ sCap) (hb1 : 0 < bytesOf P e)
    (hle : xs.length ≤ sCap) (ha : sCap = 0 ∨ ad = some ⟨(ρ k).ablk, (ρ k).base, none⟩)
    (hT : TD T o) (hk : fresh (envP P n gives C) o s (.arr es (xs ++ ys) true false 0) (fun k => .sla k 0) K) : OpOk P B n F ρ s T o a w K := by
  obtain ⟨row, e1, e2, e3, e4⟩ := hR.hr.row hl
  obtain ⟨cv, hcv, hsz, hrun⟩ := run_grow (F := F) (ρ := ρ) ho hc hts hargs ht hes hz hzv hx hm hn hr hroom hb1 row rfl hle ha
  rw [hzs, ← Nat.add_mul] at hsz
  have hgc := grownCap_ge w (xs.length + m) sCap e
  rw [show xs.length + m + (grownCap w (xs.length + m) sCap e - (xs.length + m)) = grownCap w (xs.length + m) sCap e by omega] at hsz
  have hlen : (xs ++ ys).length = xs.length + m := by rw [List.length_append, hm]
  refine okFresh (F := F) (ρ := ρ) (c := .slice (some ⟨w.heap.size, 0, none⟩) (xs.length + m) (grownCap w (xs.length + m) sCap e)) (l := ⟨0, w.heap.size, 0, grownCap w (xs.length + m) sCap e, (xs ++ ys).length, es, 0⟩) hT hk hrun
    (fun k hkk h64 => (hR.grow (Grows.drew w)).newRow k es (xs ++ ys) cv e (0, 0) _ (by rw [hlen]; exact hgc) (.inl rfl) (by rw [← hsz]; exact Nat.le_refl _) hcv.wid (fun i x j hx hj => ?_) h64) ((Grows.drew w).trans (.alloc _ _)) (fun k => by rw [hlen]; exact .slaNew)
  obtain ⟨c', c1, c2, c3⟩ := hcv.cell i x j hx hj
  exact ⟨c', by rw [← Array.getElem?_toList]; exact (take_get c1).1, c2, c3⟩
end
end Go.Proofs.YtbnpclndiichcaaGreatDoor.Eng
end
section
set_option linter.unusedVariables false
set_option linter.unusedSimpArgs false
namespace Go.Proofs.YtbnpclndiichcaaGreatDoor.Eng
open Go Go.Lib
set_option linter.unusedVariables false
set_option linter.unusedSimpArgs false

section
variable {P : Program} {gives : FuncId → Bool} {C : CL}
variable {B : Base} {n : Nat} {F : Fz} {ρ : Rho} {s : S} {a : Act} {w : World} {o : Oper} {K : S → Prop} {T : Nat → Prop}

theorem cond_inv {b : Bool} {p : Prop} (h : bif b then p else False) : b = true ∧ p := by
  cases b
  · exact h.elim
  · exact ⟨rfl, h⟩
theorem ite_inv {c : Prop} [Decidable c] {p : Prop} (h : if c then p else False) : c ∧ p := by
  split at h
  · exact ⟨by assumption, h⟩
  · exact h.elim

theorem args_two (hR : RelF B n F ρ s a w) {xs : Array Operand} {x y : V} (h : xs.toList.map s.ev = [x, y]) : ∃ cx cy, xs.map a.eval = #[cx, cy] ∧ VR (clOf w) F ρ x cx ∧ VR (clOf w) F ρ y cy := by
  obtain ⟨l⟩ := xs
  match l, h with
  | [p, q], h =>
    simp only [List.map_cons, List.map_nil, List.cons.injEq, and_true] at h
    obtain ⟨h1, h2⟩ := h
    subst h1; subst h2
    exact ⟨a.eval p, a.eval q, by simp, hR.ev p, hR.ev q⟩
theorem args_one (hR : RelF B n F ρ s a w) {xs : Array Operand} {x : V} (h : xs.toList.map s.ev = [x]) : ∃ cx, xs.map a.eval = #[cx] ∧ VR (clOf w) F ρ x cx := by
  obtain ⟨l⟩ := xs
  match l, h with
  | [p], h =>
    simp only [List.map_cons, List.map_nil, List.cons.injEq, and_true] at h
    subst h
    exact ⟨a.eval p, by simp, hR.ev p⟩
theorem args_three (hR : RelF B n F ρ s a w) {xs : Array Operand} {x y z : V} (h : xs.toList.map s.ev = [x, y, z]) : ∃ cx cy cz, xs.map a.eval = #[cx, cy, cz] ∧ VR (clOf w) F ρ x cx ∧ VR (clOf w) F ρ y cy ∧ VR (clOf w) F ρ z cz := by
  obtain ⟨l⟩ := xs
  match l, h with
  | [p, q, r], h =>
    simp only [List.map_cons, List.map_nil, List.cons.injEq, and_true] at h
    obtain ⟨h1, h2, h3⟩ := h
    subst h1; subst h2; subst h3
    exact ⟨a.eval p, a.eval q, a.eval r, by simp, hR.ev p, hR.ev q, hR.ev r⟩

theorem zeroOk_inv (w : World) {e : TypeId} (h : zeroOk P e = true) : ∃ i zv, P.info? e = some i ∧ i.zero = some zv ∧ zv.cells.size = szOf P e ∧ 1 ≤ szOf P e ∧ 1 ≤ bytesOf P e ∧ flat (ofVal zv) = true ∧ zeroV P e = some (ofVal zv) := by
  unfold zeroOk at h
  cases hz : zeroV P e with
  | none => rw [hz] at h; cases h
  | some z =>
    rw [hz] at h
    simp only [Bool.and_eq_true] at h
    obtain ⟨⟨⟨h1, h2⟩, h3⟩, h4⟩ := h
    obtain ⟨i, zv, i1, i2, i3, _⟩ := zeroV_run hz
    subst i3
    have := (zero_cells (w := w) (F := fun _ _ => False) (ρ := fun _ => default) (t := 0) (i := default) rfl h1).1
    refine ⟨i, zv, i1, i2, by rw [this]; exact Nat.eq_of_beq_eq_true h2, Nat.le_of_ble_eq_true h3, Nat.le_of_ble_eq_true h4, h1, rfl⟩

theorem bytesV_get {v : ByteArray} {i : Nat} {x : V} (h : (bytesV v)[i]? = some x) : ∃ b, v.data.toList[i]? = some b ∧ x = .c (.int .u8 b.toNat) := by
  simp only [bytesV, List.getElem?_map] at h
  cases hb : v.data.toList[i]? with
  | none => rw [hb] at h; cases h
  | some b => rw [hb] at h; cases h; exact ⟨b, rfl, rfl⟩

theorem NewC.bytes (v : ByteArray) : NewC w F ρ 1 (bytesV v) (strCells v) := by
  refine ⟨by simp [bytesV, strCells], fun i y hy => ?_, fun i y j hy hj => ?_, fun c hc => strCells_oneCell v c hc⟩
  · obtain ⟨b, _, rfl⟩ := bytesV_get hy; exact ⟨rfl, rfl⟩
  · obtain ⟨b, hb, rfl⟩ := bytesV_get hy
    have hj0 : j = 0 := by omega
    subst hj0
    refine ⟨.int .u8 b.toNat, by rw [Nat.mul_one, Nat.add_zero, strCells, List.getElem?_map, hb]; rfl, rfl, fun z hz => ?_⟩
    simp only [V.cells, List.getElem?_cons_zero, Option.some.injEq] at hz
    subst hz; exact .c rfl

theorem NewC.zeros {e : TypeId} {zv : Value} (m : Nat) (hs : zv.cells.size = szOf P e) (h1 : 1 ≤ szOf P e) (hf : flat (ofVal zv) = true) :
    NewC w F ρ (szOf P e) (List.replicate m (ofVal zv)) (Builtin.zeroCells zv.cells m).toList := by
  obtain ⟨c1, c2⟩ := zero_cells (w := w) (F := F) (ρ := ρ) (t := 0) (i := default) (zv := zv) rfl hf
  have get : ∀ q, q < m * szOf P e → (Builtin.zeroCells zv.cells m).toList[q]? = some zv.cells[q % szOf P e]! := fun q hq => by
    simp only [Builtin.zeroCells, hs, Array.toList_map, List.getElem?_map, Array.toList_range]
    rw [List.getElem?_range hq]; rfl
  have hin : ∀ q, q < szOf P e → zv.cells[q]? = some zv.cells[q]! := fun q hq => by
    have : q < zv.cells.size := by omega
    rw [Array.getElem?_eq_getElem this, getElem!_pos zv.cells q this]
  refine ⟨by simp [Builtin.zeroCells, hs], fun i y hy => ?_, fun i y j hy hj => ?_, fun c hc => ?_⟩
  · obtain ⟨_, rfl⟩ := replicate_get hy; exact ⟨by rw [← c1, hs], hf⟩
  · obtain ⟨hi, rfl⟩ := replicate_get hy
    have hm : (i * szOf P e + j) % szOf P e = j := by rw [Nat.mul_comm, Nat.mul_add_mod, Nat.mod_eq_of_lt hj]
    refine ⟨zv.cells[j]!, ?_, (c2 j _ (hin j hj)).1, fun z hz => (c2 j _ (hin j hj)).2 z hz⟩
    rw [get _ (idx_lt hi hj), hm]
  · obtain ⟨q, hq⟩ := List.getElem?_of_mem hc
    have hlt : q < m * szOf P e := by
      have := (List.getElem?_eq_some_iff.1 hq).1
      simpa [Builtin.zeroCells, hs] using this
    rw [get q hlt] at hq
    cases hq
    exact (c2 _ _ (hin _ (Nat.mod_lt _ h1))).1

/-- What is appended. -/
theorem op_append {c : Call} {t u e : TypeId} {x : V} {cx cy : Value} {ys : List V} {news : List Value}
    (ho : o.op = .call c) (hc : c.callee = .builtin .append) (hts : c.argTypes = #[t, u]) (hargs : c.args.map a.eval = #[cx, cy])
    (hR : RelF B n F ρ s a w) (hcx : VR (clOf w) F ρ x cx) (ht : isSlice P t = some e)
    (hx : Adds P e u cy ys.length news w) (hn : NewC w F ρ (szOf P e) ys news)
    (hT : TD T o) (hTk : ∀ k ∈ skeys x, T k) (hk : appendC (envP P n gives C) o t x ys s K) : OpOk P B n F ρ s T o a w K := by
  have hts' := isSlice_some ht
  simp only [appendC, envP, ht] at hk
  cases hzo : zeroOk P e with
  | false => simp [hzo] at hk
  | true =>
  simp only [hzo, Bool.not_true, cond_false] at hk
  obtain ⟨i, zv, i1, i2, i3, i4, i5, i6, i7⟩ := zeroOk_inv w hzo
  have hzv : ((P.info? e).bind (·.zero)) = some zv := by rw [i1]; exact i2
  have hfit : ∀ q, roomOk (q + ys.length) (bytesOf P e) = true → ys.length * bytesOf P e ≤ 281474976710656 := fun q h => by
    unfold roomOk at h
    rw [decide_eq_true_eq] at h
    have : ys.length * bytesOf P e ≤ (q + ys.length + 1000) * bytesOf P e := Nat.mul_le_mul_right _ (by omega)
    omega
  split at hk
  · rename_i es0 xs
    obtain ⟨hb, hk⟩ := cond_inv hk
    obtain ⟨hr, hk⟩ := ite_inv hk
    refine append_new ho hc hts hargs hR hcx ?_ hts' rfl (by omega) hzv i3 hx rfl hn hr (by omega) hT hk
    simp only [Bool.or_eq_true, List.isEmpty_iff] at hb
    rcases hb with h | h
    · exact .inl (Nat.eq_of_beq_eq_true h)
    · exact .inr h
  · rename_i k v
    split at hk
    · rename_i es xs own frz ver hl
      obtain ⟨hb, hk⟩ := cond_inv hk
      obtain ⟨hown, hk⟩ := ite_inv hk
      obtain ⟨hr, hk⟩ := ite_inv hk
      subst hown
      simp only [Bool.and_eq_true] at hb
      have hv := Nat.eq_of_beq_eq_true hb.1
      have he := Nat.eq_of_beq_eq_true hb.2
      subst he
      subst hv
      obtain ⟨row, e1, e2, e3, e4⟩ := hR.hr.row hl
      cases hcx with
      | sla hv h =>
        rename_i m cap ad
        obtain ⟨b1, b2, b3⟩ := h e3.symm
        have hcut : cutL xs 0 xs.length = xs := by simp [cutL]
        rw [b1, e2] at hargs
        cases hka : keepsA (envP P n gives C) o with
        | true =>
          have hka' : keepsA { P := P, n := n, f := False, both := And, gives := gives, call := C.call, loop := C.loop } o = true := hka
          rw [hka'] at hk
          obtain ⟨hk1, hk2⟩ := hk
          by_cases hroom : xs.length + ys.length ≤ cap
          · exact append_keep (C := C) (gives := gives) ho hc hts hargs hR hl hts' rfl (by omega) hx rfl hn (hfit _ hr) hroom (by omega) b3 (hTk _ (.head _)) hk1
          · exact append_fresh (C := C) (gives := gives) ho hc hts hargs hR hl hts' rfl (by omega) hzv i3 hx rfl hn hr hroom (by omega) (by omega) b3 hT hk2
        | false =>
        have hka' : keepsA { P := P, n := n, f := False, both := And, gives := gives, call := C.call, loop := C.loop } o = false := hka
        rw [hka'] at hk
        simp only [cond_false] at hk
        by_cases hroom : xs.length + ys.length ≤ cap
        · refine append_in (C := C) (gives := gives) (off := 0) ho hc hts hargs hR hl hts' rfl (by omega) hx rfl hn (hfit _ hr) hroom (by omega) (by omega) (by rw [Nat.zero_mul, Nat.add_zero]; exact b3) (.inr (Nat.zero_add _)) (hTk _ (.head _)) ?_
          rw [hcut]; exact hk
        · refine append_out (C := C) (gives := gives) (off := 0) ho hc hts hargs hR hl hts' rfl (by omega) hzv i3 hx rfl hn hr hroom (by omega) (by omega) (by omega) (by rw [Nat.zero_mul, Nat.add_zero]; exact b3) (hTk _ (.head _)) ?_
          rw [hcut]; exact hk
    · exact hk.elim
  · rename_i k off len v
    split at hk
    · rename_i es xs own frz ver hl
      obtain ⟨hb, hk⟩ := cond_inv hk
      obtain ⟨hown, hk⟩ := ite_inv hk
      obtain ⟨hfz, hk⟩ := ite_inv hk
      obtain ⟨hr, hk⟩ := ite_inv hk
      subst hown
      simp only [Bool.and_eq_true] at hb
      have hv := Nat.eq_of_beq_eq_true hb.1
      have he := Nat.eq_of_beq_eq_true hb.2
      subst he
      subst hv
      obtain ⟨row, e1, e2, e3, e4⟩ := hR.hr.row hl
      cases hcx with
      | slm hv h =>
        rename_i m cap ad
        obtain ⟨b1, b2, b3, b4⟩ := h e3.symm
        rw [e1] at b4
        subst b1
        by_cases hroom : m + ys.length ≤ cap
        · exact append_in ho hc hts hargs hR hl hts' rfl (by omega) hx rfl hn (hfit _ hr) hroom (by omega) (by omega) b4 hfz (hTk _ (.head _)) hk
        · exact append_out ho hc hts hargs hR hl hts' rfl (by omega) hzv i3 hx rfl hn hr hroom (by omega) (by omega) (by omega) b4 (hTk _ (.head _)) hk
    · exact hk.elim
  · exact hk.elim

theorem op_appendB {c : Call} {t u : TypeId} {x y : V} {cx cy : Value} (ho : o.op = .call c) (hc : c.callee = .builtin .append) (hts : c.argTypes = #[t, u]) (hargs : c.args.map a.eval = #[cx, cy])
    (hR : RelF B n F ρ s a w) (hcx : VR (clOf w) F ρ x cx) (hcy : VR (clOf w) F ρ y cy) (hT : TD T o) (hTk : ∀ k ∈ skeys x, T k) (hk : appendB (envP P n gives C) o t u x y s K) : OpOk P B n F ρ s T o a w K := by
  unfold appendB at hk
  split at hk
  · exact hk.elim
  rename_i e ht
  split at hk
  · rename_i v
    obtain ⟨hb, hk⟩ := cond_inv hk
    simp only [Bool.and_eq_true] at hb
    have hsz := Nat.eq_of_beq_eq_true hb.2
    have := hcy.c_inv
    subst this
    refine op_append (news := strCells v) ho hc hts hargs hR hcx ht ⟨.inl ⟨.string, isStr_some hb.1, .inr rfl, fun w' => ?_, fun w' _ => ?_⟩⟩ (by rw [show szOf P e = 1 from hsz]; exact .bytes v) hT hTk hk
    · simp [Builtin.lenOf, bytesV]
    · have : (bytesV v).length = v.size := by simp [bytesV]
      rw [this, show szOf P e = 1 from hsz]
      exact run_firstCells_string w' 1 v
  · rename_i m
    split at hk
    · rename_i z hz
      obtain ⟨hb, hk⟩ := cond_inv hk
      obtain ⟨hm, hk⟩ := ite_inv hk
      simp only [Bool.and_eq_true] at hb
      obtain ⟨⟨h1, h2⟩, h3⟩ := hb
      have hz : zeroV P e = some z := hz
      obtain ⟨i, zv, i1, i2, i3, _⟩ := zeroV_run hz
      subst i3
      have hzo : zeroOk P e = true := by
        unfold appendC at hk
        have ht : isSlice (envP P n gives C).P t = some e := ht
        rw [ht] at hk
        cases hb : zeroOk (envP P n gives C).P e with
        | true => exact hb
        | false => simp [hb] at hk; exact hk.elim
      obtain ⟨i', zv', j1, j2, j3, j4, j5, j6, j7⟩ := zeroOk_inv w hzo
      rw [i1] at j1
      cases j1
      rw [i2] at j2
      cases j2
      have := hcy.c_inv
      subst this
      obtain ⟨q, rfl⟩ : ∃ q : Nat, m = q := ⟨m.toNat, by omega⟩
      refine op_append (news := (Builtin.zeroCells zv.cells q).toList) ho hc hts hargs hR hcx ht ⟨.inr ⟨.i64, q, zv, isInt_some h3, rfl, by simp, by omega, by rw [i1]; exact i2, by simp, j3⟩⟩ ?_ hT hTk hk
      exact .zeros q j3 j4 j6
    · exact hk.elim
  · split at hk
    · rename_i e' ys hu hcn
      obtain ⟨hb, hk⟩ := cond_inv hk
      obtain ⟨ad, cap, g, p, rfl, hle, ha, row⟩ := row_of (tm := s.tm) hR.hr hcy (xs := ys) hcn
      have hrow : ∃ frz, Row w F ρ (szOf P e) ys g p frz := by
        simp only [Bool.or_eq_true, List.isEmpty_iff] at hb
        rcases hb with h | h
        · have := Nat.eq_of_beq_eq_true h
          exact ⟨_, this ▸ row⟩
        · subst h
          exact ⟨false, ⟨fun i x hx => by simp at hx, fun i x j hx => by simp at hx⟩⟩
      obtain ⟨frz, hrow⟩ := hrow
      obtain ⟨cs, c1, c2⟩ := hrow.cells
      refine op_append (news := cs) ho hc hts hargs hR hcx ht ⟨.inl ⟨_, isSlice_some hu, .inl ⟨_, rfl⟩, fun w' => by simp [Builtin.lenOf], fun w' hw => ?_⟩⟩ c1 hT hTk hk
      refine run_first c1.len hle ha (fun j v hv => ?_)
      rw [← c2 j v hv]; exact hw _
    · exact hk.elim

theorem run_builtin_op {c : Call} {b : Builtin} {r : Value} {w' : World} (ho : o.op = .call c) (hc : c.callee = .builtin b)
    (hT : ∀ ty cs, (Go.builtin b c.argTypes ty cs (c.args.map a.eval)).run P w = .ok (.value r) w') : (execOp a.eval o).run P w = .ok (.value r) w' := by
  obtain ⟨ty, cs, h⟩ := run_builtin (P := P) (w := w) (a := a) ho hc
  rw [h]; exact hT ty cs

theorem sliceOf_some {t : Option TypeId} {e : TypeId} (h : sliceOf P t = some e) : ∃ t', t = some t' ∧ P.underlying t' = some (.slice e) := by
  cases t with
  | none => cases h
  | some t => exact ⟨t, rfl, isSlice_some h⟩

theorem lenOf_some (hR : RelF B n F ρ s a w) {x : V} {c : Value} {m : Nat} (hv : VR (clOf w) F ρ x c) (h : lenOf s x = some m) : ∃ ad cap, c = .slice ad m cap := by
  unfold lenOf at h
  split at h
  · cases h
    cases hv with
    | sl cf hn => subst hn; exact ⟨_, _, rfl⟩
  · rename_i k v
    split at h
    · rename_i es xs own frz ver hl
      cases hb : Nat.beq v ver
      · rw [hb] at h; cases h
      · rw [hb] at h; cases h
        have := Nat.eq_of_beq_eq_true hb
        obtain ⟨_, e1, e2, e3, e4⟩ := hR.hr.row hl
        cases hv with
        | sla hv h => obtain ⟨b1, _⟩ := h (by omega); exact ⟨_, _, by rw [b1, e2]⟩
    · rename_i xs hl
      cases h
      obtain ⟨e1, e2, e3, e4, e5, e6⟩ := hR.hr.sr k _ hl
      cases hv with
      | sla hv h => obtain ⟨b1, _⟩ := h (by omega); exact ⟨_, _, by rw [b1, e2]⟩
    · cases h
  · rename_i k off len v
    split at h
    · rename_i es xs own frz ver hl
      cases hb : Nat.beq v ver
      · rw [hb] at h; cases h
      · rw [hb] at h; cases h
        have := Nat.eq_of_beq_eq_true hb
        obtain ⟨_, e1, e2, e3, e4⟩ := hR.hr.row hl
        cases hv with
        | slm hv h => obtain ⟨b1, _⟩ := h (by omega); exact ⟨_, _, by rw [b1]⟩
    · cases h
  · cases h

theorem op_lenB {c : Call} {x : V} {cx : Value} (ho : o.op = .call c) (hc : c.callee = .builtin .len) (hargs : c.args.map a.eval = #[cx])
    (hR : RelF B n F ρ s a w) (hcx : VR (clOf w) F ρ x cx) (hk : lenB (envP P n gives C) o c.argTypes[0]? x s K) : PurOk C P n gives F ρ s o a w K := by
  unfold lenB at hk
  split at hk
  · rename_i v
    obtain ⟨hb, hk⟩ := cond_inv hk
    have := hcx.c_inv
    subst this
    have : ∃ t, c.argTypes[0]? = some t ∧ isStr P t = true := by
      unfold strOf at hb
      split at hb
      · rename_i t ht; exact ⟨t, ht, hb⟩
      · cases hb
    obtain ⟨t, ht, hs⟩ := this
    refine okPur hk (fun w => run_builtin_op ho hc fun ty cs => ?_) hR (.c rfl)
    rw [hargs]
    simp [Go.builtin, Builtin.len_, ht, run_underlying (isStr_some hs), goInt]
  · split at hk
    · rename_i e m he hl
      obtain ⟨t, ht, hs⟩ := sliceOf_some (P := P) he
      obtain ⟨ad, cap, rfl⟩ := lenOf_some hR hcx hl
      refine okPur hk (fun w => run_builtin_op ho hc fun ty cs => ?_) hR (.c rfl)
      rw [hargs]
      simp [Go.builtin, Builtin.len_, ht, run_underlying hs, goInt]
    · exact hk.elim

theorem op_capB {c : Call} {x : V} {cx : Value} (ho : o.op = .call c) (hc : c.callee = .builtin .cap) (hargs : c.args.map a.eval = #[cx])
    (hR : RelF B n F ρ s a w) (hcx : VR (clOf w) F ρ x cx) (hk : capB (envP P n gives C) o c.argTypes[0]? x s K) : PurOk C P n gives F ρ s o a w K := by
  unfold capB at hk
  split at hk
  · split at hk
    · rename_i xs _ e he
      obtain ⟨t, ht, hs⟩ := sliceOf_some (P := P) he
      cases hcx with
      | sl cf hn hcc hf _ _ _ _ =>
        have := hf rfl
        refine okPur hk (fun w => run_builtin_op ho hc fun ty cs => ?_) hR (.c rfl)
        rw [hargs]
        simp [Go.builtin, Builtin.cap_, ht, run_underlying hs, goInt, this, hn]
    · exact hk.elim
  · exact hk.elim

theorem op_minB {c : Call} {x y : V} {cx cy : Value} (ho : o.op = .call c) (hc : c.callee = .builtin .min) (hargs : c.args.map a.eval = #[cx, cy])
    (hR : RelF B n F ρ s a w) (hcx : VR (clOf w) F ρ x cx) (hcy : VR (clOf w) F ρ y cy) (hk : minB (envP P n gives C) o x y s K) : PurOk C P n gives F ρ s o a w K := by
  unfold minB at hk
  split at hk
  · have := hcx.c_inv; subst this
    have := hcy.c_inv; subst this
    refine okPur hk (fun w => run_builtin_op ho hc fun ty cs => ?_) hR (.c rfl)
    rw [hargs]
    simp [Go.builtin, Builtin.min_, Builtin.min2]
  · exact hk.elim

theorem op_maxB {c : Call} {x y : V} {cx cy : Value} (ho : o.op = .call c) (hc : c.callee = .builtin .max) (hargs : c.args.map a.eval = #[cx, cy])
    (hR : RelF B n F ρ s a w) (hcx : VR (clOf w) F ρ x cx) (hcy : VR (clOf w) F ρ y cy) (hk : maxB (envP P n gives C) o x y s K) : PurOk C P n gives F ρ s o a w K := by
  unfold maxB at hk
  split at hk
  · have := hcx.c_inv; subst this
    have := hcy.c_inv; subst this
    refine okPur hk (fun w => run_builtin_op ho hc fun ty cs => ?_) hR (.c rfl)
    rw [hargs]
    simp [Go.builtin, Builtin.max_, Builtin.max2]
  · exact hk.elim

theorem op_min3B {c : Call} {x y z : V} {cx cy cz : Value} (ho : o.op = .call c) (hc : c.callee = .builtin .min) (hargs : c.args.map a.eval = #[cx, cy, cz])
    (hR : RelF B n F ρ s a w) (hcx : VR (clOf w) F ρ x cx) (hcy : VR (clOf w) F ρ y cy) (hcz : VR (clOf w) F ρ z cz) (hk : min3B (envP P n gives C) o x y z s K) : PurOk C P n gives F ρ s o a w K := by
  unfold min3B at hk
  split at hk
  · have := hcx.c_inv; subst this
    have := hcy.c_inv; subst this
    have := hcz.c_inv; subst this
    refine okPur hk (fun w => run_builtin_op ho hc fun ty cs => ?_) hR (.c rfl)
    rw [hargs]
    simp [Go.builtin, Builtin.min_, Builtin.min2]
  · exact hk.elim

theorem drop_get {α : Type} {xs : List α} {m i : Nat} : (xs.drop m)[i]? = xs[m + i]? := List.getElem?_drop

/-- A string's bytes over the head of a row. -/
theorem op_copyB {c : Call} {x y : V} {cx cy : Value} (ho : o.op = .call c) (hc : c.callee = .builtin .copy) (hargs : c.args.map a.eval = #[cx, cy])
    (hR : RelF B n F ρ s a w) (hcx : VR (clOf w) F ρ x cx) (hcy : VR (clOf w) F ρ y cy) (hTk : ∀ k ∈ skeys x, T k) (hk : copyB (envP P n gives C) o c.argTypes[0]? x y s K) : OpOk P B n F ρ s T o a w K := by
  unfold copyB at hk
  split at hk
  case h_2 => exact hk.elim
  rename_i k v b
  split at hk
  case h_2 => exact hk.elim
  rename_i es xs own frz ver e hl he
  obtain ⟨hb, hk⟩ := cond_inv hk
  obtain ⟨hfz, hk⟩ := ite_inv hk
  obtain ⟨hle, hk⟩ := ite_inv hk
  subst hfz
  simp only [Bool.and_eq_true] at hb
  obtain ⟨⟨h1, h2⟩, h3⟩ := hb
  have h1 := Nat.eq_of_beq_eq_true h1
  have h2 := Nat.eq_of_beq_eq_true h2
  have h3 : szOf P e = 1 := Nat.eq_of_beq_eq_true h3
  subst h1
  subst h2
  obtain ⟨t, ht, hs⟩ := sliceOf_some (P := P) he
  have := hcy.c_inv
  subst this
  obtain ⟨row, e1, e2, e3, e4⟩ := hR.hr.row hl
  obtain ⟨_, _, _, _, _, _, e7⟩ := hR.hr.sr k _ hl
  obtain ⟨ad, cap, rfl, had⟩ : ∃ ad cap, cx = .slice ad xs.length cap ∧ (xs.length = 0 ∨ ad = some ⟨(ρ k).ablk, (ρ k).base, none⟩) := by
    cases hcx with
    | sla hv h =>
      obtain ⟨b1, b2, b3⟩ := h e3.symm
      refine ⟨_, _, by rw [b1, e2], ?_⟩
      rcases b3 with b3 | b3
      · left; omega
      · right; exact b3
  have hbl : (strCells b).length = b.size := strCells_length b
  have hvl : (bytesV b).length = b.size := by simp [bytesV]
  have hown : ∀ q, q < xs.length → owns ρ k (.arr 1 xs own false v) (ρ k).ablk ((ρ k).base + q) := fun q hq => ⟨rfl, by omega, .inl ⟨rfl, by omega⟩⟩
  have hF1 : ∀ q p, F q p → ¬ owns ρ k (.arr 1 xs own false v) q p := fun q p hf hw => (hR.hr.free k _ _ _ hl hw).1 hf
  have hsome : ∀ j, j < xs.length → (clOf w (ρ k).ablk ((ρ k).base + j)).isSome = true := fun j hj => by
    obtain ⟨c, c1, _⟩ := row.cell j _ 0 (List.getElem?_eq_getElem hj) (by omega)
    rw [Nat.mul_one, Nat.add_zero] at c1
    rw [c1]; rfl
  have hsame : ∀ q p, ¬ owns ρ k (.arr 1 xs own false v) q p → clOf (w.setCells (ρ k).ablk (ρ k).base (strCells b)) q p = clOf w q p := fun q p hno => by
    refine setCells_out _ _ _ _ _ _ fun he => ?_
    subst he
    rw [hbl]
    by_cases h1 : p < (ρ k).base
    · exact .inl h1
    · by_cases h2 : p < (ρ k).base + b.size
      · have := hown (p - (ρ k).base) (by omega)
        rw [show (ρ k).base + (p - (ρ k).base) = p by omega] at this
        exact absurd this hno
      · right; omega
  have hrun : (execOp a.eval o).run P w = .ok (.value (goInt b.size)) (w.setCells (ρ k).ablk (ρ k).base (strCells b)) := by
    refine run_builtin_op ho hc fun ty cs => ?_
    rw [hargs]
    have hmin : Nat.min b.size xs.length = b.size := Nat.min_eq_left hle
    have hf := run_firstCells_string (P := P) w 1 b
    have hst := run_storeCells_cells (P := P) (ρ k).ablk (ρ k).base (strCells b) 0 w (fun j hj => by rw [Nat.add_zero]; exact hsome j (by omega))
      (fun j hj => by rw [Nat.add_zero]; exact (hR.hr.free k _ _ _ hl (hown j (by omega))).2.1) (strCells_oneCell b)
    rw [Nat.add_zero] at hst
    have hsz := run_sizeOf' (P := P) (t := e) (by omega)
    rw [h3] at hsz
    rcases had with h0 | h0
    · have hb0 : b.size = 0 := by omega
      have hs0 : strCells b = [] := List.eq_nil_of_length_eq_zero (by omega)
      rw [hs0] at hst hf ⊢
      rw [hb0] at hf
      cases ad <;> simp [Go.builtin, Builtin.copy_, ht, run_underlying hs, Builtin.lenOf, hmin, hsz, hb0, hf, storeCells, World.setCells]
    · subst h0
      simp [Go.builtin, Builtin.copy_, ht, run_underlying hs, Builtin.lenOf, hmin, hsz, hf, hst]
  have hget : ∀ i x, (bytesV b ++ xs.drop b.size)[i]? = some x → (i < b.size ∧ (bytesV b)[i]? = some x) ∨ (b.size ≤ i ∧ xs[i]? = some x) := fun i x hx => by
    rw [List.getElem?_append, hvl] at hx
    split at hx
    · exact .inl ⟨by assumption, hx⟩
    · rw [drop_get] at hx
      right
      refine ⟨by omega, ?_⟩
      rwa [show b.size + (i - b.size) = i by omega] at hx
  have hlen : (bytesV b ++ xs.drop b.size).length = xs.length := by rw [List.length_append, hvl, List.length_drop]; omega
  refine okTurn (F' := F) (ρ' := upd ρ k (ρ k)) hk hrun
    (hR.turn hl _ (ρ k) F _ w.heap.size (agree.refl _) (setCells_size _ _ _ _) hsame ⟨setCells_wd _ _ _ _, fun q p => World.frozen?_setCells _ _ _ _ _⟩ (fun q hno => ?_) hR.fr.size
      (fun q hf => Nat.lt_irrefl _ (hR.hr.fin _ _ hf)) (fun j y' q hy' ho' => Nat.lt_irrefl _ (hR.hr.free j y' _ q hy' ho').2.2) (fun _ _ h => h) (fun _ _ h => .inl h) ?_ (fun q p hw => ?_)) (.turn (hTk _ (.head _)) hl (fun _ _ h => h) (Nat.le_of_eq (setCells_size _ _ _ _).symm) fun q p _ hno => hsame q p hno) (.c rfl)
  · by_cases he : q = (ρ k).ablk
    · subst he
      by_cases hm0 : b.size = 0
      · have : strCells b = [] := List.eq_nil_of_length_eq_zero (by omega)
        rw [this]; rfl
      · exact absurd (hown 0 (by omega)) (hno _)
    · exact setCells_heap _ _ he _ _ _
  · rw [upd_self]
    have mono : ∀ {y : V} {c : Value}, VR (clOf w) F ρ y c → VR (clOf (w.setCells (ρ k).ablk (ρ k).base (strCells b))) F ρ y c := fun hv =>
      hv.mono (fun _ _ h => h) (fun q p c' hf hc' => by rw [hsame q p (hF1 q p hf)]; exact hc') (fun _ _ => agree.refl _)
    refine ⟨e1, by rw [hlen, e2], e3, by rw [hlen]; exact e4, fun i x hx => ?_, fun i x j hx hj => ?_, fun hon p h1 h2 => ?_⟩
    · rcases hget i x hx with ⟨_, h⟩ | ⟨_, h⟩
      · obtain ⟨u, _, rfl⟩ := bytesV_get h; exact ⟨rfl, rfl⟩
      · exact row.wid i x h
    · have hj0 : j = 0 := by omega
      subst hj0
      rw [Nat.mul_one, Nat.add_zero]
      rcases hget i x hx with ⟨hi, h⟩ | ⟨hi, h⟩
      · obtain ⟨u, hu, rfl⟩ := bytesV_get h
        refine ⟨.int .u8 u.toNat, ?_, rfl, fun y hy => ?_, fun h => by cases h⟩
        · have := setCells_in (ρ k).ablk (strCells b) (ρ k).base w (fun j hj => hsome j (by omega)) i (.int .u8 u.toNat) (by rw [strCells, List.getElem?_map, hu]; rfl)
          exact this
        · simp only [V.cells, List.getElem?_cons_zero, Option.some.injEq] at hy
          subst hy; exact .c rfl
      · obtain ⟨c', c1, c2, c3, c4⟩ := row.cell i x 0 h (by omega)
        rw [Nat.mul_one, Nat.add_zero] at c1
        refine ⟨c', ?_, c2, fun y hy => mono (c3 y hy), fun h => by cases h⟩
        rw [setCells_out]; exact c1
        intro _; right; omega
    · rw [hlen, Nat.mul_one] at h1
      rw [setCells_out]
      · exact e7 hon p (by omega) h2
      · intro _; right; omega
  · rw [upd_self] at hw
    have : owns ρ k (.arr 1 xs own false v) q p := by
      simp only [owns, hlen] at hw ⊢; exact hw
    exact ⟨fun hf => hF1 _ _ hf this, .inl this⟩

theorem op_builtin {c : Call} {b : Builtin} (ho : o.op = .call c) (hc : c.callee = .builtin b) (hR : RelF B n F ρ s a w) (hT : TD T o) (hTk : ∀ x ∈ (c.args.toList.map s.ev).head?, b = .append ∨ b = .copy → ∀ k ∈ skeys x, T k)
    (hk : builtinC (envP P n gives C) o b c.argTypes (c.args.toList.map s.ev) s K) : OpOk P B n F ρ s T o a w K := by
  unfold builtinC at hk
  split at hk
  · rename_i x hx
    obtain ⟨cx, h1, h2⟩ := args_one hR hx
    split at hk
    · exact (op_lenB ho hc h1 hR h2 hk).ok hR
    · exact (op_capB ho hc h1 hR h2 hk).ok hR
    · exact hk.elim
  · rename_i x y hx
    obtain ⟨cx, cy, h1, h2, h3⟩ := args_two hR hx
    split at hk
    · split at hk
      · rename_i t u htu
        have : c.argTypes = #[t, u] := by
          rw [← Array.toArray_toList (xs := c.argTypes), htu]
        exact op_appendB ho hc this h1 hR h2 h3 hT (hTk x (by rw [hx]; rfl) (.inl rfl)) hk
      · exact hk.elim
    · exact op_copyB ho hc h1 hR h2 h3 (hTk x (by rw [hx]; rfl) (.inr rfl)) hk
    · exact (op_minB ho hc h1 hR h2 h3 hk).ok hR
    · exact (op_maxB ho hc h1 hR h2 h3 hk).ok hR
    · exact hk.elim
  · rename_i x y z hx
    obtain ⟨cx, cy, cz, h1, h2, h3, h4⟩ := args_three hR hx
    split at hk
    · exact (op_min3B ho hc h1 hR h2 h3 h4 hk).ok hR
    · exact hk.elim
  · exact hk.elim
end
end Go.Proofs.YtbnpclndiichcaaGreatDoor.Eng
end
section
set_option linter.unusedVariables false
set_option linter.unusedSimpArgs false
namespace Go.Proofs.YtbnpclndiichcaaGreatDoor.Eng
open Go Go.Lib
set_option linter.unusedVariables false
set_option linter.unusedSimpArgs false

section
variable {P : Program} {gives : FuncId → Bool} {C : CL}
variable {B : Base} {n : Nat} {F : Fz} {ρ : Rho} {s : S} {a : Act} {w : World} {o : Oper} {K : S → Prop} {T : Nat → Prop}

theorem ok_nilCheck {x : Operand} (ho : o.op = .nilCheck x) (hR : RelF B n F ρ s a w) (hk : nilCheckC (envP P n gives C) o (s.ev x) s K) : PurOk C P n gives F ρ s o a w K := by
  unfold nilCheckC at hk
  split at hk
  · rename_i k f hx; exact op_nilCheck ho hR hx (.inl ⟨_, _, rfl⟩) hk
  · rename_i hx; exact op_nilCheck ho hR hx (.inr (.inl ⟨_, _, _, _, rfl⟩)) hk
  · rename_i hx; exact op_nilCheck ho hR hx (.inr (.inr (.inl ⟨_, _, _, rfl⟩))) hk
  · rename_i hx; exact op_nilCheck ho hR hx (.inr (.inr (.inr ⟨_, _, _, rfl⟩))) hk
  · exact hk.elim

theorem ok_un {u : UnOp} {t : TypeId} {x : Operand} (ho : o.op = .unOp u t x) (hR : RelF B n F ρ s a w) (hk : unC (envP P n gives C) o u (s.ev x) s K) : PurOk C P n gives F ρ s o a w K := by
  unfold unC at hk
  split at hk
  · rename_i hx; exact op_not ho hR hx hk
  · rename_i hx; exact op_neg ho hR hx hk
  · rename_i hx; exact op_cpl ho hR hx hk
  · exact hk.elim

theorem ok_convert {src dst : TypeId} {x : Operand} (ho : o.op = .convert src dst x) (hR : RelF B n F ρ s a w) (hT : TD T o) (hk : convertC (envP P n gives C) o src dst (s.ev x) s K) : OpOk P B n F ρ s T o a w K := by
  unfold convertC at hk
  split at hk
  · rename_i k i hx
    split at hk
    · rename_i k' hd
      obtain ⟨hs, hk⟩ := cond_inv hk
      exact (op_convertInt ho hR hx hs hd hk).ok hR
    · exact hk.elim
  · rename_i v hx
    split at hk
    · rename_i e he
      obtain ⟨hb, hk⟩ := cond_inv hk
      simp only [Bool.and_eq_true] at hb
      exact op_stringBytes ho hR hx hb.1.2 he hb.1.1 hT hk
    · obtain ⟨hb, hk⟩ := cond_inv hk
      simp only [Bool.and_eq_true] at hb
      exact (op_convertStr ho hR hx hb.2 hb.1 hk).ok hR
  · split at hk
    · rename_i e xs he hc
      obtain ⟨hb, hk⟩ := cond_inv hk
      obtain ⟨hu, hk⟩ := ite_inv hk
      simp only [Bool.and_eq_true] at hb
      exact op_bytesString ho hR he hb.1 hb.2 hc hu hk
    · exact hk.elim

theorem ok_makeInterface {t : TypeId} {x : Operand} (ho : o.op = .makeInterface t x) (hR : RelF B n F ρ s a w) (hk : makeIfC (envP P n gives C) o t (s.ev x) s K) : PurOk C P n gives F ρ s o a w K := by
  unfold makeIfC at hk
  split at hk
  · rename_i v hv hi
    have hi : isIface P t = some false := hi
    unfold isIface at hi
    split at hi
    · cases hi
    · rename_i d hno hd; exact op_makeInterface ho hR hv hd (fun ms h => hno ms (by rw [h])) hk
    · cases hi
  · exact hk.elim

theorem ok_makeSlice {t : TypeId} {x y : Operand} (ho : o.op = .makeSlice t x y) (hR : RelF B n F ρ s a w) (hT : TD T o) (hk : makeSliceC (envP P n gives C) o t (s.ev x) (s.ev y) s K) : OpOk P B n F ρ s T o a w K := by
  unfold makeSliceC at hk
  split at hk
  · rename_i e i m he hi hm
    split at hk
    · rename_i z hz
      obtain ⟨hb, hk⟩ := cond_inv hk
      obtain ⟨hr, hk⟩ := ite_inv hk
      simp only [Bool.and_eq_true] at hb
      exact op_makeSlice ho hR he hi hm hz hb.1.1 (Nat.eq_of_beq_eq_true hb.1.2) (Nat.le_of_ble_eq_true hb.2) hr hT hk
    · exact hk.elim
  · exact hk.elim

theorem ok_fieldAddr {t : TypeId} {x : Operand} {i : Nat} (ho : o.op = .fieldAddr t x i) (hR : RelF B n F ρ s a w) (hk : fieldAddrC (envP P n gives C) o t (s.ev x) i s K) : PurOk C P n gives F ρ s o a w K := by
  unfold fieldAddrC at hk
  split at hk
  · rename_i f hf
    cases hz : Nat.beq (szOf (envP P n gives C).P f.type) 0 with
    | true => rw [hz] at hk; exact hk.elim
    | false =>
    rw [hz] at hk
    have hz' : szOf P f.type ≠ 0 := fun h => by
      have h : szOf (envP P n gives C).P f.type = 0 := h
      rw [h] at hz; cases hz
    simp only [cond_false] at hk
    split at hk
    · rename_i hx; exact op_fieldAddr ho hR hf hz' hx (.inl ⟨_, _, rfl, rfl⟩) hk
    · rename_i hx; exact op_fieldAddr ho hR hf hz' hx (.inr (.inl ⟨_, _, _, _, rfl, rfl⟩)) hk
    · rename_i hx; exact op_fieldAddr ho hR hf hz' hx (.inr (.inr ⟨_, _, _, rfl, rfl⟩)) hk
    · exact hk.elim
  · exact hk.elim

theorem ok_indexAddr {t : TypeId} {x y : Operand} (ho : o.op = .indexAddr t x y) (hR : RelF B n F ρ s a w) (hk : indexAddrC (envP P n gives C) o t (s.ev x) (s.ev y) s K) : PurOk C P n gives F ρ s o a w K := by
  unfold indexAddrC at hk
  split at hk
  case h_2 => exact hk.elim
  rename_i i hi
  obtain ⟨k, hy⟩ := ints_some hi
  split at hk
  · rename_i m e ht
    cases hz : Nat.beq (szOf (envP P n gives C).P e) 0 with
    | true => rw [hz] at hk; exact hk.elim
    | false =>
    rw [hz] at hk
    have hz' : szOf P e ≠ 0 := fun h => by
      have h : szOf (envP P n gives C).P e = 0 := h
      rw [h] at hz; cases hz
    simp only [cond_false, indexArrC] at hk
    obtain ⟨hr, hk⟩ := ite_inv hk
    split at hk
    · rename_i hx; exact op_indexArr ho hR ht hz' hy hr hx (.inl ⟨_, _, rfl, rfl⟩) hk
    · rename_i hx; exact op_indexArr ho hR ht hz' hy hr hx (.inr (.inl ⟨_, _, _, _, rfl, rfl⟩)) hk
    · rename_i hx; exact op_indexArr ho hR ht hz' hy hr hx (.inr (.inr ⟨_, _, _, rfl, rfl⟩)) hk
    · exact hk.elim
  · split at hk
    case h_2 => exact hk.elim
    rename_i e ht
    cases hz : Nat.beq (szOf (envP P n gives C).P e) 0 with
    | true => rw [hz] at hk; exact hk.elim
    | false =>
    rw [hz] at hk
    have hz' : szOf P e ≠ 0 := fun h => by
      have h : szOf (envP P n gives C).P e = 0 := h
      rw [h] at hz; cases hz
    simp only [cond_false, indexSlC] at hk
    split at hk
    · rename_i es fl xs hx
      obtain ⟨hb, hk⟩ := cond_inv hk
      obtain ⟨hr, hk⟩ := ite_inv hk
      have := Nat.eq_of_beq_eq_true hb
      exact op_indexSl ho hR ht hz' hy (by rw [hx, this]; rfl) hr hk
    · rename_i j v hx
      split at hk
      · rename_i es xs own frz ver hl
        obtain ⟨hb, hk⟩ := cond_inv hk
        obtain ⟨hr, hk⟩ := ite_inv hk
        simp only [Bool.and_eq_true] at hb
        refine op_indexRow (C := C) (gives := gives) ho hR ht hz' hy hl (Nat.eq_of_beq_eq_true hb.1) (Nat.eq_of_beq_eq_true hb.2) 0 xs.length (.inl ⟨hx, rfl, rfl⟩) hr ?_
        rw [Nat.zero_add]; exact hk
      · rename_i xs hl
        obtain ⟨hb, hk⟩ := cond_inv hk
        obtain ⟨hr, hk⟩ := ite_inv hk
        simp only [Bool.and_eq_true] at hb
        have hv := Nat.eq_of_beq_eq_true hb.2
        subst hv
        exact op_indexRefs ho hR ht (Nat.eq_of_beq_eq_true hb.1).symm hy hl hx hr hk
      · exact hk.elim
    · rename_i j off m v hx
      split at hk
      · rename_i es xs own frz ver hl
        obtain ⟨hb, hk⟩ := cond_inv hk
        obtain ⟨hr, hk⟩ := ite_inv hk
        simp only [Bool.and_eq_true] at hb
        exact op_indexRow ho hR ht hz' hy hl (Nat.eq_of_beq_eq_true hb.1) (Nat.eq_of_beq_eq_true hb.2) off m (.inr hx) hr hk
      · exact hk.elim
    · exact hk.elim

theorem ok_extract {x : Operand} {i : Nat} (ho : o.op = .extract x i) (hR : RelF B n F ρ s a w) (hk : extractC (envP P n gives C) o (s.ev x) i s K) : PurOk C P n gives F ρ s o a w K := by
  unfold extractC at hk
  split at hk
  · rename_i hx
    split at hk
    · rename_i hi; exact op_extract ho hR hx hi hk
    · exact hk.elim
  · exact hk.elim

theorem ok_range {t : TypeId} {x : Operand} (ho : o.op = .range t x) (hR : RelF B n F ρ s a w) (hT : TD T o) (hk : rangeC (envP P n gives C) o t (s.ev x) s K) : OpOk P B n F ρ s T o a w K := by
  unfold rangeC at hk
  split at hk
  · rename_i hx
    obtain ⟨hb, hk⟩ := cond_inv hk
    exact op_range ho hR hx hb hT hk
  · exact hk.elim

theorem ok_typeAssert {x : Operand} {xt at' : TypeId} {ok : Bool} (ho : o.op = .typeAssert x xt at' ok) (hR : RelF B n F ρ s a w) (hk : typeAssertC (envP P n gives C) o (s.ev x) xt at' ok s K) : PurOk C P n gives F ρ s o a w K := by
  unfold typeAssertC at hk
  split at hk
  · rename_i hx
    split at hk
    · rename_i hr; exact op_typeAssert ho hR hx hr hk
    · exact hk.elim
  · exact hk.elim

theorem ok_alloc {t : TypeId} (ho : o.op = .alloc t) (hR : RelF B n F ρ s a w) (hT : TD T o) (hk : allocC (envP P n gives C) o t s K) : OpOk P B n F ρ s T o a w K := by
  unfold allocC at hk
  split at hk
  case h_2 => exact hk.elim
  rename_i z hz
  cases hb : arrB (envP P n gives C).P t && flat z && okCells z.cells
  · rw [hb] at hk
    obtain ⟨hb, hk⟩ := cond_inv hk
    exact op_alloc ho hR hz hb hT hk
  · rw [hb] at hk
    simp only [Bool.and_eq_true] at hb
    exact op_allocArr ho hR hz hb.1.2 hb.2 hT hk

theorem mapEvC {x : Operand} (hR : RelF B n F ρ s a w) {r : Value} (hx : s.ev x = .c r) : a.eval x = r := by
  have := hR.ev x
  rw [hx] at this
  exact this.c_inv

theorem pureC_int {op : BinOp} {k : IntKind} {i j : Int} {Kv : V → Prop} (h : pureC (envP P n gives C) (intOp op k i j) Kv) : ∃ r, intOp op k i j = some r ∧ okC r = true ∧ Kv (.c r) := by
  unfold intOp at h ⊢
  split at h <;> first | exact h.elim | exact ⟨_, rfl, rfl, h⟩
theorem pureC_str {op : BinOp} {i j : ByteArray} {Kv : V → Prop} (h : pureC (envP P n gives C) (strOp op i j) Kv) : ∃ r, strOp op i j = some r ∧ okC r = true ∧ Kv (.c r) := by
  unfold strOp at h ⊢
  split at h <;> first | exact h.elim | exact ⟨_, rfl, rfl, h⟩
theorem pureC_bool {op : BinOp} {i j : Bool} {Kv : V → Prop} (h : pureC (envP P n gives C) (boolOp op i j) Kv) : ∃ r, boolOp op i j = some r ∧ okC r = true ∧ Kv (.c r) := by
  unfold boolOp at h ⊢
  split at h <;> first | exact h.elim | exact ⟨_, rfl, rfl, h⟩

theorem ok_binI {op : BinOp} {t u : TypeId} {x y : Operand} {k k' : IntKind} {i j : Int} (ho : o.op = .binOp op t x y u) (hR : RelF B n F ρ s a w) (hx : s.ev x = .c (.int k i)) (hy : s.ev y = .c (.int k' j))
    (hk : binI (envP P n gives C) op k i k' j fun v => fin (envP P n gives C) o s v K) : PurOk C P n gives F ρ s o a w K := by
  have ex := mapEvC hR hx
  have ey := mapEvC hR hy
  unfold binI at hk
  split at hk
  · have hk2 := ite_inv hk
    clear hk
    obtain ⟨hkk, hk⟩ := hk2
    subst hkk
    split at hk
    · exact hk.elim
    · rename_i hj; exact op_bin ho hR ex ey (fun _ => run_quo hj) rfl hk
  · have hk2 := ite_inv hk
    clear hk
    obtain ⟨hkk, hk⟩ := hk2
    subst hkk
    split at hk
    · exact hk.elim
    · rename_i hj; exact op_bin ho hR ex ey (fun _ => run_rem hj) rfl hk
  · split at hk
    · exact hk.elim
    · rename_i hj; exact op_bin ho hR ex ey (fun _ => run_shl hj) rfl hk
  · split at hk
    · exact hk.elim
    · rename_i hj; exact op_bin ho hR ex ey (fun _ => run_shr hj) rfl hk
  · have hk2 := ite_inv hk
    clear hk
    obtain ⟨hkk, hk⟩ := hk2
    subst hkk
    obtain ⟨r, h1, h2, h3⟩ := pureC_int hk
    exact op_bin ho hR ex ey (fun _ => run_intOp h1) h2 h3

theorem isIfc_some {t : TypeId} (h : isIfc P t = true) : ∃ ms, P.underlying t = some (.interface ms) := by
  unfold isIfc at h
  split at h
  · rename_i ms hm; exact ⟨ms, hm⟩
  · cases h

theorem ok_binN {op : BinOp} {t u : TypeId} {x y : Operand} (ho : o.op = .binOp op t x y u) (hR : RelF B n F ρ s a w)
    (hk : binN (envP P n gives C) op t (constOf y) (s.ev x) fun v => fin (envP P n gives C) o s v K) : PurOk C P n gives F ρ s o a w K := by
  unfold binN at hk
  split at hk
  · rename_i hy
    have hy : y = .const .nilIface := by
      unfold constOf at hy
      split at hy
      · cases hy; rfl
      · cases hy
    subst hy
    split at hk
    · rename_i b hb
      obtain ⟨hi, hk⟩ := cond_inv hk
      obtain ⟨ms, hms⟩ := isIfc_some (P := P) hi
      obtain ⟨p, hp, hpb⟩ : ∃ p, s.ev x = .c p ∧ ((p = .nilIface ∧ b = true) ∨ ((∃ d u, p = .iface d u) ∧ b = false)) := by
        unfold isNil at hb
        split at hb
        · rename_i hx; cases hb; exact ⟨_, hx, .inl ⟨rfl, rfl⟩⟩
        · rename_i hx; cases hb; exact ⟨_, hx, .inr ⟨⟨_, _, rfl⟩, rfl⟩⟩
        · cases hb
      have ex := mapEvC hR hp
      split at hk
      · exact op_bin ho hR ex rfl (fun _ => run_nilI hms b hpb b (.inl ⟨rfl, rfl⟩)) rfl hk
      · exact op_bin ho hR ex rfl (fun _ => run_nilI hms b hpb (!b) (.inr ⟨rfl, rfl⟩)) rfl hk
      · exact hk.elim
    · exact hk.elim
  · rename_i hy
    have hy : y = .const (.slice none 0 0) := by
      unfold constOf at hy
      split at hy
      · cases hy; rfl
      · cases hy
    subst hy
    split at hk
    · rename_i e _ _ xs he hx
      split at hk
      · exact op_nilS ho hR (isSlice_some he) hx hk
      · exact hk.elim
    · exact hk.elim
  · exact hk.elim
end
end Go.Proofs.YtbnpclndiichcaaGreatDoor.Eng
end
section
set_option linter.unusedVariables false
set_option linter.unusedSimpArgs false
namespace Go.Proofs.YtbnpclndiichcaaGreatDoor.Eng
open Go Go.Lib
set_option linter.unusedVariables false
set_option linter.unusedSimpArgs false

section
variable {P : Program} {gives : FuncId → Bool} {C : CL}
variable {B : Base} {n : Nat} {F : Fz} {ρ : Rho} {s : S} {a : Act} {w : World} {o : Oper} {K : S → Prop} {T : Nat → Prop}

/-- A part of an aggregate. -/
theorem part_ok {t : TypeId} {cs : List V} {vs : Array Value} {off : Nat} {Kv : V → Prop} (hv : VR (clOf w) F ρ (.agg cs) (.agg vs))
    (h : asType P t (fun j => cs[j]?) asCellM off False Kv) : ∃ v c, (∀ w, (part t vs off).run P w = .ok c w) ∧ VR (clOf w) F ρ v c ∧ Kv v := by
  cases hv with
  | agg hn hk hc =>
  unfold asType at h
  cases hb : aggB P t
  · rw [hb] at h
    simp only [cond_false] at h
    split at h
    · rename_i kd hkd
      obtain ⟨d, hd⟩ := kinds_under hkd
      obtain ⟨u, v, e, hv, hk'⟩ := givesM (cl := clOf w) (F := F) (ρ := ρ) _ _ _ h
      have hlt : off < vs.size := by
        have := (List.getElem?_eq_some_iff.1 e).1
        omega
      refine ⟨v, vs[off], fun w => ?_, hv _ (hc off u vs[off] e (Array.getElem?_eq_getElem hlt)), hk'⟩
      simp [part, isAgg_run hd, hb, hlt]
    · exact h.elim
  · rw [hb] at h
    simp only [cond_true] at h
    cases hl : Nat.beq (kinds P 9 t).length (szOf P t)
    · rw [hl] at h; exact h.elim
    · rw [hl] at h
      simp only [cond_true] at h
      obtain ⟨us, ws, l1, l2, hus, hvs, hk'⟩ := asCells_inv (givesM (cl := clOf w) (F := F) (ρ := ρ)) _ _ _ h
      have hl' := Nat.eq_of_beq_eq_true hl
      have hu : ∃ d, P.underlying t = some d := by
        unfold aggB at hb
        split at hb <;> first | exact ⟨_, by assumption⟩ | cases hb
      obtain ⟨d, hd⟩ := hu
      have hin : off + szOf P t ≤ vs.size ∨ szOf P t = 0 := by
        by_cases h0 : szOf P t = 0
        · exact .inr h0
        · left
          have hju : szOf P t - 1 < us.length := by omega
          have := (List.getElem?_eq_some_iff.1 (hus _ _ (List.getElem?_eq_getElem hju))).1
          omega
      have hget : ∀ i c, (vs.extract off (off + szOf P t))[i]? = some c → i < szOf P t ∧ vs[off + i]? = some c := fun i c hi => by
        rw [Array.getElem?_extract] at hi
        split at hi
        · refine ⟨by omega, hi⟩
        · cases hi
      refine ⟨.agg ws, .agg (vs.extract off (off + szOf P t)), fun w => by simp [part, isAgg_run hd, hb, sizeOf_run hd], .agg ?_ (fun i c hi => hk _ _ (hget i c hi).2) (fun i v c hv hi => ?_), hk'⟩
      · rw [l2, hl', Array.size_extract]
        rcases hin with h1 | h1 <;> omega
      · obtain ⟨h1, h2⟩ := hget i c hi
        have hju : i < us.length := by omega
        exact hvs i us[i] v (List.getElem?_eq_getElem hju) hv c (hc _ _ _ (hus i _ (List.getElem?_eq_getElem hju)) h2)

theorem ok_field {t : TypeId} {x : Operand} {i : Nat} (ho : o.op = .field t x i) (hR : RelF B n F ρ s a w) (hk : fieldC (envP P n gives C) o t (s.ev x) i s K) : PurOk C P n gives F ρ s o a w K := by
  unfold fieldC at hk
  split at hk
  · rename_i f cs hf hx
    obtain ⟨fs, hfs, hi⟩ := fieldOf_some (P := P) hf
    have he := hR.ev x
    rw [hx] at he
    generalize hc : a.eval x = c at he
    cases he with
    | agg hn hk' h =>
      rename_i vs
      obtain ⟨v, c, h1, h2, h3⟩ := part_ok (.agg hn hk' h) hk
      have h1' : ∀ w, (part f.type vs f.offset).run P w = .ok c w := h1
      refine okPur h3 (fun w => ?_) hR h2
      simp [execOp, ho, Instr.field, run_underlying hfs, hi, hc, Go.asAgg, h1']
  · exact hk.elim

theorem VR.ag_agg {cl : Cl} {cs : List V} {vs : Array Value} (h : VR cl F ρ (.ag cs) (.agg vs)) : VR cl F ρ (.agg cs) (.agg vs) := by
  cases h with
  | ag hn h =>
    refine .agg hn (fun i v hv => ?_) (fun i v c hv hc => ?_)
    · have hi : i < cs.length := by rw [hn]; exact (Array.getElem?_eq_some_iff.1 hv).1
      exact (h i cs[i] v (List.getElem?_eq_getElem hi) hv).2
    · obtain ⟨rfl, h2⟩ := h i v c hv hc
      exact .c h2
theorem ok_index {t : TypeId} {x y : Operand} (ho : o.op = .index t x y) (hR : RelF B n F ρ s a w) (hk : indexC (envP P n gives C) o t (s.ev x) (s.ev y) s K) : PurOk C P n gives F ρ s o a w K := by
  unfold indexC at hk
  split at hk
  case h_2 => exact hk.elim
  rename_i i hi
  obtain ⟨k, hy⟩ := ints_some hi
  split at hk
  · rename_i v hx
    obtain ⟨hb, hk⟩ := cond_inv hk
    obtain ⟨hr, hk⟩ := ite_inv hk
    exact op_indexStr ho hR hb hy hx hr hk
  · rename_i cs hx
    split at hk
    case h_2 => exact hk.elim
    rename_i m e ht
    obtain ⟨hr, hk⟩ := ite_inv hk
    have he := hR.ev x
    rw [hx] at he
    generalize hc : a.eval x = c at he
    cases he with
    | ag hn h =>
      rename_i vs
      obtain ⟨v, c, h1, h2, h3⟩ := part_ok (F := F) (ρ := ρ) (VR.ag_agg (.ag hn h)) hk
      have hd : ∃ d, P.underlying e = some d := by
        by_cases hb : aggB P e = true
        · unfold aggB at hb
          split at hb <;> first | exact ⟨_, by assumption⟩ | cases hb
        · unfold asType at hk
          have hb' : aggB P e = false := by simpa using hb
          have hk : (bif aggB P e then _ else _) := hk
          rw [hb'] at hk
          simp only [cond_false] at hk
          split at hk
          · rename_i kd hkd; exact kinds_under hkd
          · exact hk.elim
      obtain ⟨d, hd⟩ := hd
      have hsz := sizeOf_run (P := P) hd
      refine okPur h3 (fun w => ?_) hR h2
      have hyv : a.eval y = .int k i := mapEvC hR hy
      have h1' : ∀ w, (part e vs (i.toNat * szOf P e)).run P w = .ok c w := h1
      simp [execOp, ho, Instr.index, run_underlying (isArr_some (P := P) ht), hc, hyv, asIntOf, hr, hsz, h1']
  · rename_i cs hx
    split at hk
    case h_2 => exact hk.elim
    rename_i m e ht
    obtain ⟨hr, hk⟩ := ite_inv hk
    have he := hR.ev x
    rw [hx] at he
    generalize hc : a.eval x = c at he
    cases he with
    | agg hn hk' h =>
      rename_i vs
      obtain ⟨v, c, h1, h2, h3⟩ := part_ok (.agg hn hk' h) hk
      have hd : ∃ d, P.underlying e = some d := by
        by_cases hb : aggB P e = true
        · unfold aggB at hb
          split at hb <;> first | exact ⟨_, by assumption⟩ | cases hb
        · unfold asType at hk
          have hb' : aggB P e = false := by simpa using hb
          have hk : (bif aggB P e then _ else _) := hk
          rw [hb'] at hk
          simp only [cond_false] at hk
          split at hk
          · rename_i kd hkd; exact kinds_under hkd
          · exact hk.elim
      obtain ⟨d, hd⟩ := hd
      have hsz := sizeOf_run (P := P) hd
      refine okPur h3 (fun w => ?_) hR h2
      have hyv : a.eval y = .int k i := mapEvC hR hy
      have h1' : ∀ w, (part e vs (i.toNat * szOf P e)).run P w = .ok c w := h1
      simp [execOp, ho, Instr.index, run_underlying (isArr_some (P := P) ht), hc, hyv, asIntOf, hr, hsz, h1']
  · exact hk.elim

theorem ok_next {x : Operand} (ho : o.op = .next x true) (hR : RelF B n F ρ s a w) (hTk : ∀ k, s.ev x = .it k → T k) (hk : nextC (envP P n gives C) o (s.ev x) s K) : OpOk P B n F ρ s T o a w K := by
  unfold nextC at hk
  split at hk
  case h_2 => exact hk.elim
  rename_i k hx
  split at hk
  case h_2 => exact hk.elim
  rename_i v p hl
  have he := hR.ev x
  rw [hx] at he
  generalize hc : a.eval x = c at he
  cases he
  have hsr : w.heap[(ρ k).blk]? = some (.stringIter v p) := hR.hr.sr k _ hl
  have hlt : (ρ k).blk < w.heap.size := (Array.getElem?_eq_some_iff.1 hsr).1
  split at hk
  · rename_i hp
    have hh : ∀ g, g ≠ (ρ k).blk → (w.heap.setIfInBounds (ρ k).blk (.stringIter v (p + (Utf8.decode v p).2)))[g]? = w.heap[g]? := fun g hg => by simp [Ne.symm hg]
    have hh' : (w.heap.setIfInBounds (ρ k).blk (.stringIter v (p + (Utf8.decode v p).2)))[(ρ k).blk]? = some (.stringIter v (p + (Utf8.decode v p).2)) := by simp [hlt]
    refine okTurn (F' := F) (ρ' := upd ρ k (ρ k)) (c := .tuple #[.bool true, goInt p, .int .i32 (Utf8.decode v p).1]) (w' := { w with heap := w.heap.setIfInBounds (ρ k).blk (.stringIter v (p + (Utf8.decode v p).2)) }) hk ?_
      (hR.turn hl _ (ρ k) F _ w.heap.size (agree.refl _) (by simp) (fun g q hno => ?_) ⟨⟨rfl, rfl, rfl⟩, fun g q => ?_⟩ (fun g hno => hh g fun e => hno 0 (show g = (ρ k).blk from e)) hR.fr.size
        (fun q hf => Nat.lt_irrefl _ (hR.hr.fin _ _ hf)) (fun j y' q hy' ho' => Nat.lt_irrefl _ (hR.hr.free j y' _ q hy' ho').2.2) (fun _ _ h => h) (fun _ _ h => .inl h) ?_ (fun q p' hw => ?_)) (.turn (hTk k hx) hl (fun _ _ h => h) (by simp) fun g q _ hno => ?_) ?_
    · simp [execOp, ho, hc, Instr.next, getObj, setObj, Sem.run, hsr, hp]
    · have hg : g ≠ (ρ k).blk := hno
      simp only [clOf, World.cell?, hh g hg]
    · by_cases hg : g = (ρ k).blk
      · subst hg
        simp only [World.frozen?, hh', hsr]
      · simp only [World.frozen?, hh g hg]
    · rw [upd_self]; exact hh'
    · rw [upd_self] at hw
      have hw' : owns ρ k (.iter v p) q p' := hw
      exact ⟨fun hf => (hR.hr.free k _ _ _ hl hw').1 hf, .inl hw'⟩
    · have hg : g ≠ (ρ k).blk := hno
      simp only [clOf, World.cell?, hh g hg]
    · refine .tup rfl fun i u d hu hd => ?_
      match i, hu, hd with
      | 0, hu, hd => simp at hu hd; subst hu; subst hd; exact .c rfl
      | 1, hu, hd => simp at hu hd; subst hu; subst hd; exact .c rfl
      | 2, hu, hd => simp at hu hd; subst hu; subst hd; exact .c rfl
      | i + 3, hu, hd => simp at hu
  · rename_i hp
    refine okVal (c := .tuple #[.bool false]) hk ?_ hR (.tup rfl fun i u d hu hd => ?_)
    · simp [execOp, ho, hc, Instr.next, getObj, Sem.run, hsr, hp]
    · match i, hu, hd with
      | 0, hu, hd => simp at hu hd; subst hu; subst hd; exact .c rfl
      | i + 1, hu, hd => simp at hu

theorem foldl_set (off : Nat) : ∀ (l : List Value) (j0 : Nat) (cs : Array Value), ((l.zipIdx j0).foldl (fun cs (x : Value × Nat) => cs.setIfInBounds (off + x.2) x.1) cs).size = cs.size ∧
    ∀ i, ((l.zipIdx j0).foldl (fun cs (x : Value × Nat) => cs.setIfInBounds (off + x.2) x.1) cs)[i]? = if off + j0 ≤ i ∧ i < off + j0 + l.length ∧ i < cs.size then l[i - (off + j0)]? else cs[i]?
  | [], j0, cs => ⟨rfl, fun i => by rw [if_neg (by simp; omega)]; rfl⟩
  | v :: r, j0, cs => by
    obtain ⟨h1, h2⟩ := foldl_set off r (j0 + 1) (cs.setIfInBounds (off + j0) v)
    simp only [List.zipIdx_cons, List.foldl_cons]
    refine ⟨by rw [h1]; simp, fun i => ?_⟩
    rw [h2 i, Array.size_setIfInBounds]
    by_cases h : off + (j0 + 1) ≤ i ∧ i < off + (j0 + 1) + r.length ∧ i < cs.size
    · rw [if_pos h, if_pos (by simp; omega), show i - (off + j0) = i - (off + (j0 + 1)) + 1 by omega]; rfl
    · rw [if_neg h, Array.getElem?_setIfInBounds]
      by_cases hi : off + j0 = i
      · subst hi
        by_cases hs : off + j0 < cs.size
        · rw [if_pos rfl, if_pos hs, if_pos (by simp; omega), Nat.sub_self]; rfl
        · rw [if_pos rfl, if_neg hs, if_neg (by simp; omega), Array.getElem?_eq_none (by omega)]
      · rw [if_neg hi, if_neg (by simp at h ⊢; omega)]

/-- Cells that stand for cells. -/
def CR (w : World) (F : Fz) (ρ : Rho) (cs : List V) (cv : Array Value) : Prop :=
  cs.length = cv.size ∧ ∀ (i : Nat) (d : Value), cv[i]? = some d → okC d = true ∧ ∀ u, cs[i]? = some u → VR (clOf w) F ρ u d

theorem fill_rel {place : Nat → Option (Nat × Nat)} : ∀ (ps : List (Nat × V)) (qs : List (Nat × Value)) (cs : List V) (cv : Array Value) (out : List V), ps.length = qs.length →
    (∀ (i : Nat) (p : Nat × V) (q : Nat × Value), ps[i]? = some p → qs[i]? = some q → p.1 = q.1 ∧ VR (clOf w) F ρ p.2 q.2) → CR w F ρ cs cv → fillV place cv.size cs ps = some out →
    ∃ r, Instr.fill place cv qs = some r ∧ CR w F ρ out r
  | [], [], cs, cv, out, _, _, hc, h => by cases h; exact ⟨cv, rfl, hc⟩
  | (i, v) :: ps, (j, d) :: qs, cs, cv, out, hl, hv, hc, h => by
    obtain ⟨e, hvd⟩ := hv 0 _ _ rfl rfl
    simp only at e hvd
    subst e
    rw [fillV] at h
    split at h
    case h_2 => cases h
    rename_i off sz hp
    cases hb : Nat.beq v.cells.length sz && okCells v.cells && Nat.ble (off + sz) cv.size
    · rw [hb] at h; cases h
    rw [hb] at h
    simp only [cond_true] at h
    simp only [Bool.and_eq_true] at hb
    obtain ⟨⟨b1, b2⟩, b3⟩ := hb
    have b1 := Nat.eq_of_beq_eq_true b1
    have b3 := Nat.le_of_ble_eq_true b3
    obtain ⟨d1, d2⟩ := cells_rel b2 hvd
    obtain ⟨f1, f2⟩ := foldl_set off d.cells.toList 0 cv
    have hfold : d.cells.zipIdx.foldl (fun cs (x : Value × Nat) => cs.setIfInBounds (off + x.2) x.1) cv = (d.cells.toList.zipIdx 0).foldl (fun cs (x : Value × Nat) => cs.setIfInBounds (off + x.2) x.1) cv := by
      rw [← Array.foldl_toList, Array.toList_zipIdx]
    have hcr : CR w F ρ (setL cs off v.cells) (d.cells.zipIdx.foldl (fun cs (x : Value × Nat) => cs.setIfInBounds (off + x.2) x.1) cv) := by
      rw [hfold]
      refine ⟨by rw [setL_length, f1]; exact hc.1, fun i' d' hd' => ?_⟩
      rw [f2 i'] at hd'
      simp only [Nat.add_zero, Array.length_toList] at hd'
      have hle : off + v.cells.length ≤ cs.length := by rw [hc.1]; omega
      by_cases hi : off ≤ i' ∧ i' < off + d.cells.size ∧ i' < cv.size
      · rw [if_pos hi, Array.getElem?_toList] at hd'
        obtain ⟨e1, e2⟩ := d2 _ _ hd'
        refine ⟨e1, fun u hu => e2 u ?_⟩
        rw [setL_get _ _ _ _ hle, if_pos (by omega)] at hu; exact hu
      · rw [if_neg hi] at hd'
        obtain ⟨e1, e2⟩ := hc.2 i' d' hd'
        refine ⟨e1, fun u hu => e2 u ?_⟩
        rw [setL_get _ _ _ _ hle, if_neg (by omega)] at hu; exact hu
    have hsz : (d.cells.zipIdx.foldl (fun cs (x : Value × Nat) => cs.setIfInBounds (off + x.2) x.1) cv).size = cv.size := by rw [hfold, f1]
    obtain ⟨r, r1, r2⟩ := fill_rel ps qs _ _ out (by simpa using hl) (fun i' p q hp hq => hv (i' + 1) p q (by simpa using hp) (by simpa using hq)) hcr (by rw [hsz]; exact h)
    refine ⟨r, ?_, r2⟩
    rw [Instr.fill]
    simp only [hp]
    rw [if_neg (by simp; omega)]
    exact r1
end
end Go.Proofs.YtbnpclndiichcaaGreatDoor.Eng
end
section
set_option linter.unusedVariables false
set_option linter.unusedSimpArgs false
namespace Go.Proofs.YtbnpclndiichcaaGreatDoor.Eng
open Go Go.Lib
set_option linter.unusedVariables false
set_option linter.unusedSimpArgs false

section
variable {P : Program} {gives : FuncId → Bool} {C : CL}
variable {B : Base} {n : Nat} {F : Fz} {ρ : Rho} {s : S} {a : Act} {w : World} {o : Oper} {K : S → Prop} {T : Nat → Prop}

theorem partsEv (hR : RelF B n F ρ s a w) (ps : Array (Nat × Operand)) : (partsOf s ps).length = ((ps.map fun (i, x) => (i, a.eval x)).toList).length ∧
    ∀ (i : Nat) (p : Nat × V) (q : Nat × Value), (partsOf s ps)[i]? = some p → ((ps.map fun (i, x) => (i, a.eval x)).toList)[i]? = some q → p.1 = q.1 ∧ VR (clOf w) F ρ p.2 q.2 := by
  refine ⟨by simp [partsOf], fun i p q hp hq => ?_⟩
  unfold partsOf at hp
  rw [Array.toList_map] at hq
  rw [List.getElem?_map] at hp hq
  cases hx : ps.toList[i]? with
  | none => rw [hx] at hp; cases hp
  | some x => rw [hx] at hp hq; cases hp; cases hq; exact ⟨rfl, hR.ev x.2⟩

theorem zero_agg {t : TypeId} {z : List V} (h : zeroV P t = some (.agg z)) : ∃ i cv, P.info? t = some i ∧ i.zero = some (.agg cv) ∧ CR w F ρ z cv := by
  obtain ⟨i, zv, i1, i2, i3, _⟩ := zeroV_run h
  have hv : VR (clOf w) F ρ (ofVal zv) zv := .ofVal zv
  rw [i3] at hv
  cases hv with
  | @agg _ vs hn hk hc =>
    exact ⟨i, vs, i1, i2, hn, fun j d hd => ⟨hk j d hd, fun u hu => hc j u d hu hd⟩⟩

theorem places_some : ∀ (fs : List Field), fs.all (fun f => (P.info? f.type).isSome) = true →
    fs.mapM (fun f => (P.info? f.type).map fun i => (f.offset, i.size)) = some (fs.map fun f => (f.offset, szOf P f.type))
  | [], _ => rfl
  | f :: r, h => by
    simp only [List.all_cons, Bool.and_eq_true] at h
    obtain ⟨i, hi⟩ := Option.isSome_iff_exists.1 h.1
    have : szOf P f.type = i.size := by simp [szOf, hi]
    simp [List.mapM_cons, hi, places_some r h.2, this]

theorem CR.agg {cs : List V} {cv : Array Value} (h : CR w F ρ cs cv) : VR (clOf w) F ρ (.agg cs) (.agg cv) :=
  .agg h.1 (fun i d hd => (h.2 i d hd).1) (fun i u d hu hd => (h.2 i d hd).2 u hu)

theorem ok_build {t : TypeId} {ps : Array (Nat × Operand)} (ho : o.op = .build t ps) (hR : RelF B n F ρ s a w) (hk : buildC (envP P n gives C) o t ps s K) : OpOk P B n F ρ s T o a w K := by
  unfold buildC at hk
  split at hk
  case h_2 => exact hk.elim
  rename_i z hz
  obtain ⟨it, cv, i1, i2, i3⟩ := zero_agg (P := P) (w := w) (F := F) (ρ := ρ) hz
  obtain ⟨p1, p2⟩ := partsEv hR ps
  have fin' : ∀ (place : Nat → Option (Nat × Nat)) (cs : List V), fillV place z.length z (partsOf s ps) = some cs → fin (envP P n gives C) o s (.agg cs) K →
      (∀ r, Instr.fill place cv ((ps.map fun (i, x) => (i, a.eval x)).toList) = some r → P.built t ((ps.map fun (i, x) => (i, a.eval x)).toList) = some r) → OpOk P B n F ρ s T o a w K := by
    intro place cs hf hk hb
    rw [i3.1] at hf
    obtain ⟨r, r1, r2⟩ := fill_rel _ _ _ _ _ p1 p2 i3 hf
    refine okVal hk ?_ hR r2.agg
    have := run_build w t _ r (hb r r1)
    simp only [execOp, ho, Sem.run_bind, this, Result.andThen_ok, Sem.run_pure]
  split at hk
  · rename_i fs hfs
    obtain ⟨hb, hk⟩ := cond_inv hk
    simp only [Bool.and_eq_true] at hb
    split at hk
    case h_2 => exact hk.elim
    rename_i cs hf
    refine fin' _ cs hf hk fun r hr => ?_
    have hfs : P.underlying t = some (.struct fs) := hfs
    have hpl := places_some (P := P) fs.toList hb.1
    have hr' : Instr.fill (fun x => (fs.toList.map fun f => (f.offset, szOf P f.type)).toArray[x]?) cv ((ps.map fun (i, x) => (i, a.eval x)).toList) = some r := by
      rw [← hr]
      congr 1
      funext i
      simp only [List.getElem?_toArray, List.getElem?_map, Array.getElem?_toList]
      cases fs[i]? <;> rfl
    simp only [Program.built, i1, hfs, i2, hpl, Value.cells]
    exact hr'
  · rename_i m e hfs
    obtain ⟨hb, hk⟩ := cond_inv hk
    simp only [Bool.and_eq_true] at hb
    split at hk
    case h_2 => exact hk.elim
    rename_i cs hf
    refine fin' _ cs hf hk fun r hr => ?_
    have hfs : P.underlying t = some (.array m e) := hfs
    have hie : ∃ ie, P.info? e = some ie ∧ szOf P e = ie.size := by
      have h := Nat.le_of_ble_eq_true hb.1
      have h : 1 ≤ szOf P e := h
      cases hi : P.info? e with
      | none => simp [szOf, hi] at h
      | some ie => exact ⟨ie, rfl, by simp [szOf, hi]⟩
    obtain ⟨ie, hie, hse⟩ := hie
    simp only [Program.built, i1, hfs, i2, hie, Value.cells]
    rw [← hr, ← hse]
    rfl
  · exact hk.elim

/-- Where what is handed over lies, for the one to whom it is handed. -/
def handRho (ρ : Rho) (ks : List Nat) : Rho := fun i => { ρ (ks.getD i 0) with ver := 0 }

theorem idx_get : ∀ {ks : List Nat} {k i : Nat}, idx ks k = some i → ks[i]? = some k
  | [], k, i, h => by simp [idx] at h
  | j :: r, k, i, h => by
    rw [idx] at h
    cases hb : Nat.beq j k
    · rw [hb] at h
      simp only [cond_false] at h
      cases hr : idx r k with
      | none => rw [hr] at h; cases h
      | some m => rw [hr] at h; cases h; have := idx_get hr; simpa using this
    · rw [hb] at h
      cases h
      have := Nat.eq_of_beq_eq_true hb
      subst this; rfl
theorem handRho_idx {ks : List Nat} {k i : Nat} (h : idx ks k = some i) : handRho ρ ks i = { ρ k with ver := 0 } := by
  simp [handRho, List.getD, idx_get h]

theorem content_eq {hp hp1 : List (Nat × Slot)} {fs : List Nat} (heq : ∀ k, look k hp1 = (look k hp).map (froz fs k)) (v : V) : content ⟨[], hp1⟩ v = content ⟨[], hp⟩ v := by
  unfold content
  split
  · rfl
  · rename_i k v
    simp only [heq k]
    cases look k hp with
    | none => rfl
    | some x => cases x <;> rfl
  · rename_i k off len v
    simp only [heq k]
    cases look k hp with
    | none => rfl
    | some x => cases x <;> rfl
  · rfl
theorem esOf_eq {hp hp1 : List (Nat × Slot)} {fs : List Nat} (heq : ∀ k, look k hp1 = (look k hp).map (froz fs k)) (k : Nat) : esOf hp1 k = esOf hp k := by
  unfold esOf
  simp only [heq k]
  cases look k hp with
  | none => rfl
  | some x => cases x <;> rfl
theorem frzV_of {hp hp1 : List (Nat × Slot)} {fs : List Nat} (heq : ∀ k, look k hp1 = (look k hp).map (froz fs k)) {k : Nat} (hk : k ∈ fs) {v : V} {xs : List V} (hv : (∃ u, v = .sla k u) ∨ ∃ p q u, v = .slm k p q u)
    (hc : content ⟨[], hp⟩ v = some xs) : frzV hp1 v = true := by
  have hany : fs.any (Nat.beq k) = true := List.any_eq_true.2 ⟨k, hk, Nat.beq_refl k⟩
  rcases hv with ⟨u, rfl⟩ | ⟨p, q, u, rfl⟩
  · simp only [content] at hc
    simp only [frzV, heq k]
    cases hl : look k hp with
    | none => rw [hl] at hc; cases hc
    | some x => cases x <;> rw [hl] at hc <;> first | cases hc | skip
                simp [froz, hany]
  · simp only [content] at hc
    simp only [frzV, heq k]
    cases hl : look k hp with
    | none => rw [hl] at hc; cases hc
    | some x => cases x <;> rw [hl] at hc <;> first | cases hc | skip
                simp [froz, hany]

section
variable {hp hp1 : List (Nat × Slot)} {fs ks : List Nat}
mutual
theorem handV_ok (hh : HR w F ρ hp1) (heq : ∀ k, look k hp1 = (look k hp).map (froz fs k)) : ∀ (v : V) {v' : V} {c : Value}, (∀ k ∈ skeys v, k ∈ fs) → handV hp ks v = some v' → VR (clOf w) F ρ v c → VR (clOf w) F (handRho ρ ks) v' c
  | .c v, v', c, _, h, hv => by cases h; exact hv.flatρ rfl
  | .sl es fl xs, v', c, _, h, hv => by cases h; exact hv.flatρ rfl
  | .sla k u, v', c, hf, h, hv => by
    simp only [handV] at h
    cases hc : content ⟨[], hp⟩ (.sla k u) with
    | none => rw [hc] at h; cases h
    | some xs =>
      rw [hc] at h; cases h
      have := handV_sl hh hv (by rw [content_eq heq]; exact hc) (frzV_of heq (hf k (.head _)) (.inl ⟨_, rfl⟩) hc)
      rw [show esV hp1 (.sla k u) = esOf hp k from esOf_eq heq k] at this
      exact this.flatρ rfl
  | .slm k p q u, v', c, hf, h, hv => by
    simp only [handV] at h
    cases hc : content ⟨[], hp⟩ (.slm k p q u) with
    | none => rw [hc] at h; cases h
    | some xs =>
      rw [hc] at h; cases h
      have := handV_sl hh hv (by rw [content_eq heq]; exact hc) (frzV_of heq (hf k (.head _)) (.inr ⟨_, _, _, rfl⟩) hc)
      rw [show esV hp1 (.slm k p q u) = esOf hp k from esOf_eq heq k] at this
      exact this.flatρ rfl
  | .ptr k p, v', c, _, h, hv => by
    simp only [handV] at h
    cases hi : idx ks k with
    | none => rw [hi] at h; cases h
    | some i =>
      rw [hi] at h; cases h
      cases hv
      have := VR.ptr (cl := clOf w) (F := F) (ρ := handRho ρ ks) (k := i) (off := p)
      rw [handRho_idx hi] at this
      exact this
  | .mp k, v', c, _, h, hv => by
    simp only [handV] at h
    cases hi : idx ks k with
    | none => rw [hi] at h; cases h
    | some i =>
      rw [hi] at h; cases h
      cases hv
      have := VR.mp (cl := clOf w) (F := F) (ρ := handRho ρ ks) (k := i)
      rw [handRho_idx hi] at this
      exact this
  | .agg cs, v', c, hf, h, hv => by
    simp only [handV] at h
    cases hc : handV.handC hp ks cs with
    | none => rw [hc] at h; cases h
    | some ds =>
      rw [hc] at h; cases h
      obtain ⟨l1, l2⟩ := handC_ok hh heq cs (fun k hk => hf k (by simpa [skeys] using hk)) hc
      cases hv with
      | agg hn hk h' =>
        refine .agg (l1.trans hn) hk fun i u d hu hd => ?_
        have hi : i < cs.length := by rw [← l1]; exact (List.getElem?_eq_some_iff.1 hu).1
        exact l2 i cs[i] u d (List.getElem?_eq_getElem hi) hu (h' i _ d (List.getElem?_eq_getElem hi) hd)
  | .fn f x y, v', c, hf, h, hv => by
    simp only [handV] at h
    cases hx : handV.handC hp ks x with
    | none => rw [hx] at h; cases h
    | some x' =>
      cases hy : handV.handC hp ks y with
      | none => rw [hx, hy] at h; cases h
      | some y' =>
        rw [hx, hy] at h; cases h
        obtain ⟨l1, l2⟩ := handC_ok hh heq x (fun k hk => hf k (by simp only [skeys, List.mem_append]; exact .inl hk)) hx
        obtain ⟨m1, m2⟩ := handC_ok hh heq y (fun k hk => hf k (by simp only [skeys, List.mem_append]; exact .inr hk)) hy
        cases hv with
        | fn hn hm h1 h2 =>
          refine .fn (l1.trans hn) (m1.trans hm) (fun i u d hu hd => ?_) (fun i u d hu hd => ?_)
          · have hi : i < x.length := by rw [← l1]; exact (List.getElem?_eq_some_iff.1 hu).1
            exact l2 i x[i] u d (List.getElem?_eq_getElem hi) hu (h1 i _ d (List.getElem?_eq_getElem hi) hd)
          · have hi : i < y.length := by rw [← m1]; exact (List.getElem?_eq_some_iff.1 hu).1
            exact m2 i y[i] u d (List.getElem?_eq_getElem hi) hu (h2 i _ d (List.getElem?_eq_getElem hi) hd)
  | .pe .., v', c, _, h, _ | .ep .., v', c, _, h, _ | .tup _, v', c, _, h, _ | .it _, v', c, _, h, _ | .bad, v', c, _, h, _ => by simp [handV] at h
theorem handC_ok (hh : HR w F ρ hp1) (heq : ∀ k, look k hp1 = (look k hp).map (froz fs k)) : ∀ (vs : List V) {vs' : List V}, (∀ k ∈ skeys.skeysC vs, k ∈ fs) → handV.handC hp ks vs = some vs' →
    vs'.length = vs.length ∧ ∀ (i : Nat) (v v' : V) (c : Value), vs[i]? = some v → vs'[i]? = some v' → VR (clOf w) F ρ v c → VR (clOf w) F (handRho ρ ks) v' c
  | [], vs', _, h => by cases h; exact ⟨rfl, fun i v v' c hv => by simp at hv⟩
  | v :: r, vs', hf, h => by
    simp only [handV.handC] at h
    cases hx : handV hp ks v with
    | none => rw [hx] at h; cases h
    | some x =>
      cases hy : handV.handC hp ks r with
      | none => rw [hx, hy] at h; cases h
      | some y =>
        rw [hx, hy] at h; cases h
        have hv := fun c => handV_ok hh heq v (v' := x) (c := c) (fun k hk => hf k (by simp only [skeys.skeysC, List.mem_append]; exact .inl hk)) hx
        obtain ⟨l1, l2⟩ := handC_ok hh heq r (fun k hk => hf k (by simp only [skeys.skeysC, List.mem_append]; exact .inr hk)) hy
        refine ⟨by simp [l1], fun i u u' c hu hu' => ?_⟩
        cases i with
        | zero => simp at hu hu'; subst hu; subst hu'; exact hv c
        | succ i => simp at hu hu'; exact l2 i u u' c hu hu'
end
end

theorem handV_noAgg {hp : List (Nat × Slot)} {ks : List Nat} {x y : V} (hx : ∀ cs, x ≠ .agg cs) (h : handV hp ks x = some y) : x.cells = [x] ∧ y.cells = [y] := by
  cases x with
  | agg cs => exact absurd rfl (hx cs)
  | _ =>
    simp only [handV] at h
    try (first | (cases h; exact ⟨rfl, rfl⟩) | skip)
    all_goals
      refine ⟨rfl, ?_⟩
      first
        | (cases h; done)
        | (simp only [Option.map_eq_some_iff] at h; obtain ⟨_, _, h⟩ := h; subst h; rfl)
        | (split at h <;> first | (cases h; rfl) | cases h)

theorem handC_get {hp : List (Nat × Slot)} {ks : List Nat} : ∀ {vs vs' : List V}, handV.handC hp ks vs = some vs' → vs'.length = vs.length ∧ ∀ (i : Nat) (v' : V), vs'[i]? = some v' → ∃ v, vs[i]? = some v ∧ handV hp ks v = some v'
  | [], vs', h => by cases h; exact ⟨rfl, fun i v' hv => by simp at hv⟩
  | v :: r, vs', h => by
    simp only [handV.handC] at h
    cases hx : handV hp ks v with
    | none => rw [hx] at h; cases h
    | some x =>
      cases hy : handV.handC hp ks r with
      | none => rw [hx, hy] at h; cases h
      | some y =>
        rw [hx, hy] at h; cases h
        obtain ⟨l1, l2⟩ := handC_get hy
        refine ⟨by simp [l1], fun i u hu => ?_⟩
        cases i with
        | zero => simp at hu; subst hu; exact ⟨v, rfl, hx⟩
        | succ i => simp at hu; simpa using l2 i u hu

theorem handV_cells {hp : List (Nat × Slot)} {ks : List Nat} {x y : V} (h : handV hp ks x = some y) : y.cells.length = x.cells.length ∧ ∀ (j : Nat) (u' : V), y.cells[j]? = some u' → ∃ u, x.cells[j]? = some u ∧ handV hp ks u = some u' := by
  by_cases hx : ∃ cs, x = .agg cs
  · obtain ⟨cs, rfl⟩ := hx
    simp only [handV] at h
    cases hc : handV.handC hp ks cs with
    | none => rw [hc] at h; cases h
    | some ds => rw [hc] at h; cases h; exact handC_get hc
  · obtain ⟨h1, h2⟩ := handV_noAgg (fun cs e => hx ⟨cs, e⟩) h
    rw [h1, h2]
    refine ⟨rfl, fun j u' hu => ?_⟩
    cases j with
    | zero => simp at hu; subst hu; exact ⟨x, rfl, h⟩
    | succ j => simp at hu

theorem owns_froz {fs : List Nat} {k : Nat} {x : Slot} {g p : Nat} (h : owns ρ k (froz fs k x) g p) : owns ρ k x g p := by
  cases x with
  | arr es xs own frz ver =>
    simp only [froz, owns] at h ⊢
    refine ⟨h.1, h.2.1, ?_⟩
    rcases h.2.2 with h' | h'
    · simp only [Bool.or_eq_false_iff] at h'; exact .inl ⟨h'.1.1, h'.2⟩
    · exact .inr h'
  | _ => exact h
theorem RelF.froz1 {F1 : Fz} {s1 : S} {fs : List Nat} (hR1 : RelF B n F1 ρ s1 a w) (heq : ∀ k, look k s1.hp = (look k s.hp).map (froz fs k)) :
    ∀ k x1 g p, look k s1.hp = some x1 → owns ρ k x1 g p → ∃ x, look k s.hp = some x ∧ owns ρ k x g p := fun k x1 g p hl ho => by
  rw [heq k] at hl
  cases hx : look k s.hp with
  | none => rw [hx] at hl; cases hl
  | some x => rw [hx] at hl; cases hl; exact ⟨x, rfl, owns_froz ho⟩
theorem RelF.froz2 {F1 : Fz} {s1 : S} {fs : List Nat} (hR : RelF B n F ρ s a w) (hR1 : RelF B n F1 ρ s1 a w) (heq : ∀ k, look k s1.hp = (look k s.hp).map (froz fs k)) :
    ∀ k x g p, look k s.hp = some x → owns ρ k x g p → F1 g p ∨ ∃ x1, look k s1.hp = some x1 ∧ owns ρ k x1 g p := fun k x g p hl ho => by
  have h1 : look k s1.hp = some (froz fs k x) := by rw [heq k, hl]; rfl
  cases x with
  | arr es xs own frz ver =>
    obtain ⟨o1, o2, o3⟩ := ho
    rcases o3 with ⟨o3, o4⟩ | o3
    · cases hz : (frz || fs.any (Nat.beq k)) with
      | false => exact .inr ⟨_, h1, o1, o2, .inl ⟨hz, o4⟩⟩
      | true =>
        left
        simp only [froz, hz] at h1
        obtain ⟨row, e1, e2, e3, e4⟩ := hR1.hr.row h1
        obtain ⟨d1, d2, d3⟩ := divmod_lt (j := p - (ρ k).base) (m := xs.length) (es := es) (by omega)
        obtain ⟨c, _, _, _, c4⟩ := row.cell ((p - (ρ k).base) / es) _ ((p - (ρ k).base) % es) (List.getElem?_eq_getElem d1) d2
        have := c4 rfl
        rw [show (ρ k).base + (p - (ρ k).base) / es * es + (p - (ρ k).base) % es = p by omega, ← o1] at this
        exact this
    · exact .inr ⟨_, h1, o1, o2, .inr o3⟩
  | _ => exact .inr ⟨_, h1, ho⟩
end
end Go.Proofs.YtbnpclndiichcaaGreatDoor.Eng
end
section
set_option linter.unusedVariables false
set_option linter.unusedSimpArgs false
namespace Go.Proofs.YtbnpclndiichcaaGreatDoor.Eng
open Go Go.Lib
set_option linter.unusedVariables false
set_option linter.unusedSimpArgs false

section
variable {P : Program} {gives : FuncId → Bool} {C : CL}
variable {B : Base} {n : Nat} {F : Fz} {ρ : Rho} {s : S} {a : Act} {w : World} {o : Oper} {K : S → Prop} {T : Nat → Prop}

/-- Elements that stand for cells, es to an element. -/
structure RR (w : World) (F : Fz) (ρ : Rho) (es : Nat) (xs : List V) (cv : Array Value) : Prop where
  size : cv.size = xs.length * es
  wid : ∀ (i : Nat) (x : V), xs[i]? = some x → x.cells.length = es
  cell : ∀ (i : Nat) (x : V) (j : Nat), xs[i]? = some x → j < es → ∃ c, cv[i * es + j]? = some c ∧ okC c = true ∧ ∀ y, x.cells[j]? = some y → VR (clOf w) F ρ y c

theorem setAll_length : ∀ (ps : List (Nat × V)) (xs : List V), (setAll xs ps).length = xs.length
  | [], xs => rfl
  | (i, v) :: r, xs => by rw [setAll, setAll_length r]; simp

theorem row_div {i i' j es : Nat} (hj : j < es) (h : i * es ≤ i' * es + j) (h' : i' * es + j < i * es + es) : i' = i := by
  rw [← Nat.succ_mul] at h'
  have h1 : i < i' + 1 := by
    by_cases hc : i' + 1 ≤ i
    · have := Nat.mul_le_mul_right es hc
      rw [Nat.succ_mul] at this; omega
    · omega
  have h2 : i' < i + 1 := by
    by_cases hc : i + 1 ≤ i'
    · have := Nat.mul_le_mul_right es hc
      have h3 : (i + 1) * es = i * es + es := Nat.succ_mul i es
      rw [Nat.succ_mul] at h'; omega
    · omega
  omega

theorem fill_rows {es m : Nat} : ∀ (ps : List (Nat × V)) (qs : List (Nat × Value)) (xs : List V) (cv : Array Value), ps.length = qs.length →
    (∀ (i : Nat) (p : Nat × V) (q : Nat × Value), ps[i]? = some p → qs[i]? = some q → p.1 = q.1 ∧ VR (clOf w) F ρ p.2 q.2) → RR w F ρ es xs cv → partsFit es m ps = true → m = xs.length →
    ∃ r, Instr.fill (fun i => some (i * es, es)) cv qs = some r ∧ RR w F ρ es (setAll xs ps) r
  | [], [], xs, cv, _, _, hc, _, _ => ⟨cv, rfl, hc⟩
  | (i, v) :: ps, (j, d) :: qs, xs, cv, hl, hv, hc, h, hm => by
    obtain ⟨e, hvd⟩ := hv 0 _ _ rfl rfl
    simp only at e hvd
    subst e
    simp only [partsFit, Bool.and_eq_true] at h
    obtain ⟨⟨⟨b0, b1⟩, b2⟩, b3⟩ := h
    have b0 := Nat.le_of_ble_eq_true b0
    have b1 := Nat.eq_of_beq_eq_true b1
    obtain ⟨d1, d2⟩ := cells_rel b2 hvd
    have hi : i < xs.length := by omega
    have hfit : i * es + es ≤ cv.size := by
      rw [hc.size, ← Nat.succ_mul]; exact Nat.mul_le_mul_right _ hi
    obtain ⟨f1, f2⟩ := foldl_set (i * es) d.cells.toList 0 cv
    have hfold : d.cells.zipIdx.foldl (fun cs (x : Value × Nat) => cs.setIfInBounds (i * es + x.2) x.1) cv = (d.cells.toList.zipIdx 0).foldl (fun cs (x : Value × Nat) => cs.setIfInBounds (i * es + x.2) x.1) cv := by
      rw [← Array.foldl_toList, Array.toList_zipIdx]
    have hrr : RR w F ρ es (xs.set i v) (d.cells.zipIdx.foldl (fun cs (x : Value × Nat) => cs.setIfInBounds (i * es + x.2) x.1) cv) := by
      rw [hfold]
      refine ⟨by rw [f1, List.length_set]; exact hc.size, fun i' x hx => ?_, fun i' x j' hx hj => ?_⟩
      · rw [List.getElem?_set] at hx
        split at hx
        · cases hx; exact b1
        · exact hc.wid i' x hx
      · rw [f2]
        simp only [Nat.add_zero, Array.length_toList]
        rw [List.getElem?_set] at hx
        split at hx
        · rename_i hii
          subst hii
          cases hx
          have hjd : j' < d.cells.size := by omega
          rw [if_pos (by omega), show i * es + j' - i * es = j' by omega, Array.getElem?_toList]
          obtain ⟨e1, e2⟩ := d2 j' d.cells[j'] (Array.getElem?_eq_getElem hjd)
          exact ⟨d.cells[j'], Array.getElem?_eq_getElem hjd, e1, e2⟩
        · rename_i hii
          rw [if_neg (fun hh => hii (row_div hj hh.1 (by omega)).symm)]
          exact hc.cell i' x j' hx hj
    obtain ⟨r, r1, r2⟩ := fill_rows ps qs _ _ (by simpa using hl) (fun i' p q hp hq => hv (i' + 1) p q (by simpa using hp) (by simpa using hq)) hrr b3 (by rw [List.length_set]; exact hm)
    refine ⟨r, ?_, r2⟩
    rw [Instr.fill]
    simp only
    rw [if_neg (by simp; omega)]
    exact r1

theorem zero_rows {z : V} {zv : Value} {es m : Nat} (h : VR (clOf w) F ρ z zv) (hok : okCells z.cells = true) (hz : z.cells.length = es) (he : 0 < es) :
    zv.cells.size = es ∧ RR w F ρ es (List.replicate m z) ((Array.range (m * es)).map (zv.cells[· % zv.cells.size]!)) := by
  obtain ⟨c1, c2⟩ := cells_rel hok h
  have hs : zv.cells.size = es := by omega
  refine ⟨hs, by simp, fun i x hx => ?_, fun i x j hx hj => ?_⟩
  · obtain ⟨_, rfl⟩ := replicate_get hx; exact hz
  · obtain ⟨hi, rfl⟩ := replicate_get hx
    have hjs : j < zv.cells.size := by omega
    have hm : (i * es + j) % es = j := by rw [Nat.mul_comm, Nat.mul_add_mod, Nat.mod_eq_of_lt hj]
    obtain ⟨e1, e2⟩ := c2 j zv.cells[j] (Array.getElem?_eq_getElem hjs)
    refine ⟨zv.cells[j], ?_, e1, e2⟩
    rw [Array.getElem?_map, hs]
    have hlt : i * es + j < m * es := idx_lt hi hj
    rw [Array.getElem?_eq_getElem (by simpa using hlt)]
    simp only [Array.getElem_range, Option.map_some, hm, Option.some.injEq]
    rw [getElem!_pos zv.cells j hjs]

theorem run_buildSlice' {t e : TypeId} {m es : Nat} {parts : Array (Nat × Value)} {cells : Array Value} {z : Value} {it : TypeInfo} (hu : P.underlying t = some (.slice e)) (hie : P.info? e = some it) (hz : it.zero = some z)
    (hs : szOf P e = es) (hzs : z.cells.size = es) (hsmall : m * es ≤ 10000) (h0 : 0 < es)
    (h : Instr.fill (fun i => some (i * es, es)) ((Array.range (m * es)).map (z.cells[· % z.cells.size]!)) parts.toList = some cells) :
    (Instr.buildSlice t m parts).run P w = .ok (.slice (some ⟨w.heap.size, 0, none⟩) m m) (w.alloc (.cells cells e)) := by
  have hsi : it.size = es := by rw [← hs]; simp [szOf, hie]
  by_cases hm : m * it.size = 0
  · have hm0 : m = 0 := by
      rcases Nat.mul_eq_zero.1 hm with h | h
      · exact h
      · omega
    subst hm0
    have h' : Instr.fill (fun i => some (i * it.size, it.size)) (#[] : Array Value) parts.toList = some cells := by
      rw [hsi]
      rw [Nat.zero_mul, show Array.range 0 = #[] from by simp, Array.map_empty] at h
      exact h
    have e0 : Array.range 0 = #[] := by simp
    simp [Instr.buildSlice, run_underlying hu, sizeOf, typeInfo, hie, e0, h', newRow]
  · exact run_buildSlice w t e m parts cells it z hu hie hz (by rw [hsi]; omega) hm (by rw [hsi]; exact h)

theorem uniq_mem : ∀ (l acc : List Nat) (k : Nat), k ∈ uniq l acc ↔ k ∈ l ∨ k ∈ acc
  | [], acc, k => by simp [uniq]
  | j :: r, acc, k => by
    rw [uniq]
    cases hb : acc.any (Nat.beq j)
    · simp only [cond_false]
      rw [uniq_mem r]
      simp only [List.mem_cons]
      constructor
      · rintro (h | h | h)
        · exact .inl (.inr h)
        · exact .inl (.inl h)
        · exact .inr h
      · rintro ((h | h) | h)
        · exact .inr (.inl h)
        · exact .inl h
        · exact .inr (.inr h)
    · simp only [cond_true]
      rw [uniq_mem r]
      simp only [List.mem_cons]
      obtain ⟨j', h1, h2⟩ := List.any_eq_true.1 hb
      have := Nat.eq_of_beq_eq_true h2
      subst this
      constructor
      · rintro (h | h)
        · exact .inl (.inr h)
        · exact .inr h
      · rintro ((h | h) | h)
        · subst h; exact .inr h1
        · exact .inl h
        · exact .inr h

theorem RR.mono {w' : World} {F' : Fz} {ρ' : Rho} {es : Nat} {xs : List V} {cv : Array Value} (h : RR w F ρ es xs cv) (hv : ∀ (i : Nat) (x : V) (j : Nat) (y : V) (c : Value), xs[i]? = some x → x.cells[j]? = some y → VR (clOf w) F ρ y c → VR (clOf w') F' ρ' y c) : RR w' F' ρ' es xs cv :=
  ⟨h.size, h.wid, fun i x j hx hj => by
    obtain ⟨c, c1, c2, c3⟩ := h.cell i x j hx hj
    exact ⟨c, c1, c2, fun y hy => hv i x j y c hx hy (c3 y hy)⟩⟩

theorem ok_refs {t e : TypeId} {m : Nat} {ps : Array (Nat × Operand)} {xs : List V} {r : Array Value} (ho : o.op = .buildSlice t m ps) (hR : RelF B n F ρ s a w)
    (hrun : (execOp a.eval o).run P w = .ok (.value (.slice (some ⟨w.heap.size, 0, none⟩) m m)) (w.alloc (.cells r e))) (hr : RR w F ρ 1 xs r) (hm : m = xs.length) (hok : okCells xs = true)
    (hT : TD T o) (hk : fresh (envP P n gives C) o s (.refs xs) (fun k => .sla k 0) K) : OpOk P B n F ρ s T o a w K := by
  subst hm
  refine okFresh (F := F) (ρ := ρ) (c := .slice (some ⟨w.heap.size, 0, none⟩) xs.length xs.length) (l := ⟨0, w.heap.size, 0, xs.length, xs.length, 1, 0⟩) hT hk hrun (fun k hkk h64 => ?_) (.alloc _ _) (fun k => .slaNew)
  refine hR.bindNew _ k _ _ ?_ (fun g p ho => ?_) (fun p hp => ?_) h64
  · show _ ∧ _
    rw [upd_same]
    refine ⟨rfl, rfl, rfl, rfl, rfl, fun i v hv => ?_⟩
    obtain ⟨c, c1, c2, c3⟩ := hr.cell i v 0 hv (by omega)
    rw [Nat.mul_one, Nat.add_zero] at c1
    have hcl := hr.wid i v hv
    have hcells : v.cells = [v] := by
      cases v with
      | agg cs => have := okCells_mem.1 hok _ (List.mem_of_getElem? hv); simp [okCell] at this
      | _ => rfl
    refine ⟨c, by rw [cell_new]; exact c1, c2, ?_⟩
    refine (c3 v (by rw [hcells]; rfl)).mono (fun _ _ h => h) (fun _ _ _ _ hc => clOf_alloc_some hc) (fun j hj => ?_)
    have : j ≠ k := fun e => hkk (by
      subst e
      simp only [keysS]
      exact keysC_mem.2 ⟨v, List.mem_of_getElem? hv, hj⟩)
    rw [upd_ne _ _ this]; exact agree.refl _
  · simp only [owns, upd_same] at ho; exact ho.1
  · rw [World.frozen?_alloc_new] at hp; cases hp

theorem ok_buildSlice {t : TypeId} {m : Nat} {ps : Array (Nat × Operand)} (ho : o.op = .buildSlice t m ps) (hR : RelF B n F ρ s a w) (hT : TD T o) (hk : buildSliceC (envP P n gives C) o t m ps s K) : OpOk P B n F ρ s T o a w K := by
  unfold buildSliceC at hk
  split at hk
  · exact hk.elim
  rename_i e he
  split at hk
  · exact hk.elim
  rename_i z hz
  obtain ⟨hb, hk⟩ := cond_inv hk
  simp only [Bool.and_eq_true] at hb
  obtain ⟨⟨⟨⟨b1, b2⟩, b3⟩, b4⟩, b5⟩ := hb
  have b2 : m * szOf P e ≤ 10000 := Nat.le_of_ble_eq_true b2
  have b3 : 1 ≤ szOf P e := Nat.le_of_ble_eq_true b3
  have b4 : z.cells.length = szOf P e := Nat.eq_of_beq_eq_true b4
  obtain ⟨it, zv, i1, i2, i3, _⟩ := zeroV_run (P := P) hz
  have hzv : VR (clOf w) F ρ z zv := i3 ▸ VR.ofVal zv
  obtain ⟨z1, z2⟩ := zero_rows (m := m) hzv b5 b4 (by omega)
  obtain ⟨p1, p2⟩ := partsEv hR ps
  have hml : m = (List.replicate m z).length := by simp
  obtain ⟨r, r1, r2⟩ := fill_rows (m := m) _ _ _ _ p1 p2 z2 b1 hml
  have hrun : (execOp a.eval o).run P w = .ok (.value (.slice (some ⟨w.heap.size, 0, none⟩) m m)) (w.alloc (.cells r e)) := by
    have := run_buildSlice' (w := w) (P := P) (parts := ps.map fun (i, x) => (i, a.eval x)) (isSlice_some he) i1 i2 rfl z1 b2 (by omega) r1
    simp only [execOp, ho, Sem.run_bind, this, Result.andThen_ok, Sem.run_pure]
  have hlen : (setAll (List.replicate m z) (partsOf s ps)).length = m := by rw [setAll_length, List.length_replicate]
  have hB : ∀ {p q : Bool}, (bif Nat.beq (szOf P e) 1 && q then fresh (envP P n gives C) o s (.refs (setAll (List.replicate m z) (partsOf s ps))) (fun k => .sla k 0) K else False) →
      (q = okCells (setAll (List.replicate m z) (partsOf s ps))) → OpOk P B n F ρ s T o a w K := fun {p q} hk hq => by
    obtain ⟨hb, hk⟩ := cond_inv hk
    simp only [Bool.and_eq_true] at hb
    have h1 := Nat.eq_of_beq_eq_true hb.1
    exact ok_refs ho hR hrun (h1 ▸ r2) hlen.symm (hq ▸ hb.2) hT hk
  split at hk
  · rename_i ys hys
    cases hfl : flat.flatL ys with
    | false => rw [hfl] at hk; exact hB (p := true) hk rfl
    | true =>
      rw [hfl] at hk
      simp only [cond_true] at hk
      generalize hxs : setAll (List.replicate m z) (partsOf s ps) = xs at *
      obtain ⟨F1, hR1, hF1⟩ := hR.freezeL (uniq (skeys.skeysC xs) [])
      have heq := fun k => look_freezeL (uniq (skeys.skeysC xs) []) s k
      obtain ⟨g1, g2⟩ := handC_get hys
      have hfl' := flatL_mem.1 hfl
      have hrow : ∀ (i : Nat) (y : V), ys[i]? = some y → ∃ x, xs[i]? = some x ∧ handV s.hp [] x = some y ∧ flat y = true ∧ y.cells.length = szOf P e := fun i y hy => by
        obtain ⟨x, h1, h2⟩ := g2 i y hy
        exact ⟨x, h1, h2, hfl' y (List.mem_of_getElem? hy), by rw [(handV_cells h2).1, r2.wid i x h1]⟩
      have hsk : ∀ (i : Nat) (x : V), xs[i]? = some x → ∀ k ∈ skeys x, k ∈ uniq (skeys.skeysC xs) [] := fun i x hx k hk => by
        rw [uniq_mem]
        left
        have : ∀ (l : List V), x ∈ l → k ∈ skeys.skeysC l := fun l => by
          induction l with
          | nil => intro h; cases h
          | cons a r ih =>
            intro h
            simp only [skeys.skeysC, List.mem_append]
            rcases List.mem_cons.1 h with h | h
            · subst h; exact .inl hk
            · exact .inr (ih h)
        exact this xs (List.mem_of_getElem? hx)
      refine okFresh1 (F1 := F1) (ρ := ρ) (c := .slice (some ⟨w.heap.size, 0, none⟩) m m) (l := ⟨0, w.heap.size, 0, m, ys.length, szOf P e, 0⟩) hT hk hrun
        (fun k hkk h64 => hR1.newRow k (szOf P e) ys r e (0, 0) m (by omega) (.inl rfl) (by rw [r2.size, hlen]; exact Nat.le_refl _) (fun i y hy => ?_) (fun i y j hy hj => ?_) h64) (.alloc _ _) (fun h => .pre hF1 (hR1.froz1 heq) (hR.froz2 hR1 heq) h) (fun k => by rw [show ys.length = m by omega]; exact .slaNew)
      · obtain ⟨x, h1, h2, h3, h4⟩ := hrow i y hy
        exact ⟨h4, h3⟩
      · obtain ⟨x, h1, h2, h3, h4⟩ := hrow i y hy
        obtain ⟨c, c1, c2, c3⟩ := r2.cell i x j h1 hj
        refine ⟨c, c1, c2, fun u hu => ?_⟩
        obtain ⟨u0, u1, u2⟩ := (handV_cells h2).2 j u hu
        have hfu := flat_cells h3 hu
        have hsub : ∀ k ∈ skeys u0, k ∈ uniq (skeys.skeysC xs) [] := fun k hk => hsk i x h1 k (by
          cases x with
          | agg cs =>
            simp only [V.cells] at u1
            simp only [skeys]
            have : ∀ (l : List V), u0 ∈ l → k ∈ skeys.skeysC l := fun l => by
              induction l with
              | nil => intro h; cases h
              | cons a r ih =>
                intro h
                simp only [skeys.skeysC, List.mem_append]
                rcases List.mem_cons.1 h with h | h
                · subst h; exact .inl hk
                · exact .inr (ih h)
            exact this cs (List.mem_of_getElem? u1)
          | _ =>
            simp only [V.cells] at u1
            cases j with
            | zero => simp at u1; subst u1; exact hk
            | succ j => simp at u1)
        have := handV_ok (ks := []) hR1.hr heq u0 hsub u2 ((c3 u0 u1).mono hF1 (fun _ _ _ _ h => h) (fun _ _ => agree.refl _))
        exact this.flatρ hfu
  · exact hB (p := true) hk rfl
end
end Go.Proofs.YtbnpclndiichcaaGreatDoor.Eng
end
section
set_option linter.unusedVariables false
set_option linter.unusedSimpArgs false
namespace Go.Proofs.YtbnpclndiichcaaGreatDoor.Eng
open Go Go.Lib
set_option linter.unusedVariables false
set_option linter.unusedSimpArgs false

section
variable {P : Program} {gives : FuncId → Bool} {C : CL}
variable {B : Base} {n : Nat} {F : Fz} {ρ : Rho} {s : S} {a : Act} {w : World} {o : Oper} {K : S → Prop} {T : Nat → Prop}

theorem skeysC_mem {cs : List V} {k : Nat} {u : V} (hu : u ∈ cs) (hk : k ∈ skeys u) : k ∈ skeys.skeysC cs := by
  induction cs with
  | nil => cases hu
  | cons a r ih =>
    simp only [skeys.skeysC, List.mem_append]
    rcases List.mem_cons.1 hu with h | h
    · subst h; exact .inl hk
    · exact .inr (ih h)

theorem setE_cells {x : V} {off es : Nat} {ys : List V} (hx : x.cells.length = es) (hle : off + ys.length ≤ es) (hne : ys ≠ []) (h1 : ∀ y ∈ ys, y.cells = [y]) :
    (setE x off ys).cells = setL x.cells off ys := by
  cases x with
  | agg cs => rfl
  | _ =>
    simp only [V.cells, List.length_cons, List.length_nil] at hx
    match off, ys, hle, hne, h1 with
    | 0, [v], _, _, h1 => simp only [setE, V.cells, setL, List.set_cons_zero]; exact h1 v (.head _)
    | 0, v :: u :: r, hle, _, _ => simp only [List.length_cons] at hle; omega
    | off + 1, v :: r, hle, _, _ => simp only [List.length_cons] at hle; omega

theorem setE_flat {x : V} {off es : Nat} {ys : List V} (hx : x.cells.length = es) (hle : off + ys.length ≤ es) (hf : flat x = true) (h1 : ∀ y ∈ ys, flat y = true) : flat (setE x off ys) = true := by
  cases x with
  | agg cs =>
    simp only [setE, flat]
    refine flatL_mem.2 fun v hv => ?_
    obtain ⟨i, hi⟩ := List.getElem?_of_mem hv
    rw [setL_get _ _ _ _ (by simp only [V.cells] at hx; omega)] at hi
    split at hi
    · exact h1 v (List.mem_of_getElem? hi)
    · exact flatL_mem.1 (by simpa [flat] using hf) v (List.mem_of_getElem? hi)
  | _ =>
    simp only [setE]
    split
    · exact h1 _ (.head _)
    · exact hf

theorem run_store'' {t : TypeId} {x y : Operand} {b p : Nat} {c : Value} (ho : o.op = .store t x y) (hx : a.eval x = .pointer (some ⟨b, p, none⟩)) (hy : a.eval y = c)
    (hz : szOf P t ≠ 0) (hs : c.cells.size = szOf P t) (hc : ∀ j, j < c.cells.size → (clOf w b (p + j)).isSome = true) (hf : ∀ j, j < c.cells.size → w.frozen? ⟨b, p + j, none⟩ = false)
    (h1 : ∀ v ∈ c.cells.toList, v.oneCell' = true) : (execOp a.eval o).run P w = .ok .skip (w.setCells b p c.cells.toList) := run_store' ho hx hy hz hs hc hf h1

theorem ok_store {t : TypeId} {x y : Operand} (ho : o.op = .store t x y) (hR : RelF B n F ρ s a w) (hTk : ∀ k ∈ pkey (s.ev x), T k) (hk : storeC (envP P n gives C) o t (s.ev x) (s.ev y) s K) : OpOk P B n F ρ s T o a w K := by
  unfold storeC at hk
  obtain ⟨hb, hk⟩ := cond_inv hk
  simp only [Bool.and_eq_true] at hb
  obtain ⟨⟨⟨b1, b2⟩, b3⟩, b4⟩ := hb
  have b1 : (s.ev y).cells.length = szOf P t := Nat.eq_of_beq_eq_true b1
  have b4 : 1 ≤ szOf P t := Nat.le_of_ble_eq_true b4
  have hd : o.dst = none := by
    cases h : o.dst with
    | none => rfl
    | some d => rw [h] at b3; cases b3
  split at hk
  · rename_i k off hx
    split at hk
    · rename_i kds cs hl
      obtain ⟨hoff, hk⟩ := ite_inv hk
      exact op_storePtr ho hR hd hx hl b1 (by omega) b2 hoff (hTk k (by rw [hx]; exact .head _)) hk
    · exact hk.elim
  · rename_i k v i off hx
    split at hk
    case h_2 => exact hk.elim
    rename_i es xs own frz ver hl
    split at hk
    case h_2 => exact hk.elim
    rename_i ys hys
    obtain ⟨hb, hk⟩ := cond_inv hk
    simp only [Bool.and_eq_true, Bool.not_eq_true'] at hb
    obtain ⟨⟨c1, c2⟩, c3⟩ := hb
    have c1 := Nat.eq_of_beq_eq_true c1
    subst c1
    have hk2 := ite_inv hk
    clear hk
    obtain ⟨hfz, hk⟩ := hk2
    have hk2 := ite_inv hk
    clear hk
    obtain ⟨hi, hk⟩ := hk2
    have hk2 := ite_inv hk
    clear hk
    obtain ⟨hoff, hk⟩ := hk2
    subst hfz
    generalize hxv : s.ev y = xv at *
    have hey := hR.ev y
    rw [hxv] at hey
    generalize hcy : a.eval y = cy at *
    obtain ⟨d1, d2⟩ := cells_rel b2 hey
    obtain ⟨F1, hR1, hF1⟩ := hR.freezeL (uniq (skeys.skeysC xv.cells) [])
    have heq := fun k => look_freezeL (uniq (skeys.skeysC xv.cells) []) s k
    have hnk : (uniq (skeys.skeysC xv.cells) []).any (Nat.beq k) = false := by
      cases hb : (uniq (skeys.skeysC xv.cells) []).any (Nat.beq k)
      · rfl
      · obtain ⟨j, h1, h2⟩ := List.any_eq_true.1 hb
        have := Nat.eq_of_beq_eq_true h2
        subst this
        rw [uniq_mem] at h1
        have := List.any_eq_false.1 c3 k (by simpa using h1)
        simp [Nat.beq_refl] at this
    have hl1 : look k (freezeL s (uniq (skeys.skeysC xv.cells) [])).hp = some (.arr es xs own false v) := by
      rw [heq k, hl]
      simp [froz, hnk]
    generalize hs1 : freezeL s (uniq (skeys.skeysC xv.cells) []) = s1 at *
    obtain ⟨row, e1, e2, e3, e4⟩ := hR1.hr.row hl1
    obtain ⟨_, _, _, _, _, _, e7⟩ := hR1.hr.sr k _ hl1
    obtain ⟨g1, g2⟩ := handC_get hys
    have hyl : ys.length = szOf P t := by omega
    have hyn : ys ≠ [] := fun e => by rw [e] at hyl; simp at hyl; omega
    have hyf := flatL_mem.1 c2
    have hy1 : ∀ u ∈ ys, u.cells = [u] := fun u hu => by
      obtain ⟨j, hj⟩ := List.getElem?_of_mem hu
      obtain ⟨u0, h1, h2⟩ := g2 j u hj
      refine (handV_noAgg (fun cs e => ?_) h2).2
      subst e
      have := okCells_mem.1 b2 _ (List.mem_of_getElem? h1)
      simp [okCell] at this
    have hpx := hR.ev x
    rw [hx] at hpx
    generalize hcx : a.eval x = cx at hpx
    cases hpx with
    | pe hv h =>
    rename_i ad
    have hadr := h e3.symm
    subst hadr
    rw [e1] at hcx
    have hieb : i * es + es ≤ xs.length * es := by rw [← Nat.succ_mul]; exact Nat.mul_le_mul_right _ hi
    have hsz : cy.cells.size = ys.length := by omega
    have hown : ∀ q, q < xs.length * es → owns ρ k (.arr es xs own false v) (ρ k).ablk ((ρ k).base + q) := fun q hq => ⟨rfl, by omega, .inl ⟨rfl, by omega⟩⟩
    have hF2 : ∀ q p, F1 q p → ¬ owns ρ k (.arr es xs own false v) q p := fun q p hf hw => (hR1.hr.free k _ _ _ hl1 hw).1 hf
    have hsome : ∀ q, q < xs.length * es → (clOf w (ρ k).ablk ((ρ k).base + q)).isSome = true := fun q hq => by
      obtain ⟨q1, q2, q3⟩ := divmod_lt hq
      obtain ⟨c, h1, _⟩ := row.cell (q / es) _ (q % es) (List.getElem?_eq_getElem q1) q2
      rw [Nat.add_assoc, q3] at h1
      rw [h1]; rfl
    have hrun := run_store' (P := P) ho hcx hcy (by omega) (by omega) (fun j hj => by
        rw [show (ρ k).base + i * es + off + j = (ρ k).base + (i * es + off + j) by omega]; exact hsome _ (by omega))
      (fun j hj => by
        rw [show (ρ k).base + i * es + off + j = (ρ k).base + (i * es + off + j) by omega]; exact (hR1.hr.free k _ _ _ hl1 (hown _ (by omega))).2.1)
      (fun u hu => by
        obtain ⟨j, hj⟩ := List.getElem?_of_mem hu
        rw [Array.getElem?_toList] at hj
        exact (d2 j u hj).1)
    have hlen : cy.cells.toList.length = ys.length := by simpa using hsz
    have hsame : ∀ q p, ¬ owns ρ k (.arr es xs own false v) q p → clOf (w.setCells (ρ k).ablk ((ρ k).base + i * es + off) cy.cells.toList) q p = clOf w q p := fun q p hno => by
      refine setCells_out _ _ _ _ _ _ fun he => ?_
      subst he
      rw [hlen]
      by_cases h1 : p < (ρ k).base + i * es + off
      · exact .inl h1
      · by_cases h2 : p < (ρ k).base + i * es + off + ys.length
        · have := hown (p - (ρ k).base) (by omega)
          rw [show (ρ k).base + (p - (ρ k).base) = p by omega] at this
          exact absurd this hno
        · right; omega
    have mono : ∀ {y : V} {c : Value}, VR (clOf w) F1 ρ y c → VR (clOf (w.setCells (ρ k).ablk ((ρ k).base + i * es + off) cy.cells.toList)) F1 ρ y c := fun hv =>
      hv.mono (fun _ _ h => h) (fun q p c' hf hc' => by rw [hsame q p (hF2 q p hf)]; exact hc') (fun _ _ => agree.refl _)
    have hxi : xs.getD i .bad = xs[i] := by simp [List.getD, hi]
    rw [hxi] at hk
    have hwi := row.wid i xs[i] (List.getElem?_eq_getElem hi)
    have hcells : (setE xs[i] off ys).cells = setL xs[i].cells off ys := setE_cells hwi.1 hoff hyn hy1
    have hset : ∀ (j : Nat) (u : V), (xs.set i (setE xs[i] off ys))[j]? = some u → (j = i ∧ u = setE xs[i] off ys) ∨ (j ≠ i ∧ xs[j]? = some u) := fun j u hu => by
      rw [List.getElem?_set] at hu
      split at hu
      · rename_i e; subst e; cases hu; exact .inl ⟨rfl, rfl⟩
      · rename_i e; exact .inr ⟨fun h => e h.symm, hu⟩
    have hTk' : T k := hTk k (by rw [hx]; exact .head _)
    refine okSkip (F' := F1) (ρ' := upd ρ k (ρ k)) hd hk hrun
      (hR1.turn hl1 _ (ρ k) F1 _ w.heap.size (agree.refl _) (setCells_size _ _ _ _) hsame ⟨setCells_wd _ _ _ _, fun q p => World.frozen?_setCells _ _ _ _ _⟩ (fun q hno => ?_) hR1.fr.size
        (fun q hf => Nat.lt_irrefl _ (hR1.hr.fin _ _ hf)) (fun j y' q hy' ho' => Nat.lt_irrefl _ (hR1.hr.free j y' _ q hy' ho').2.2) (fun _ _ h => h) (fun _ _ h => .inl h) ?_ (fun q p hw => ?_))
      (.pre hF1 (hR1.froz1 heq) (hR.froz2 hR1 heq) (.turn hTk' hl1 (fun _ _ h => h) (Nat.le_of_eq (setCells_size _ _ _ _).symm) fun q p _ hno => hsame q p hno))
    · by_cases he : q = (ρ k).ablk
      · subst he
        exact absurd (hown 0 (by omega)) (hno _)
      · exact setCells_heap _ _ he _ _ _
    · rw [upd_self]
      refine ⟨e1, by rw [List.length_set]; exact e2, e3, by rw [List.length_set]; exact e4, fun j u hu => ?_, fun j u jj hu hj => ?_, fun hon p h1 h2 => ?_⟩
      · rcases hset j u hu with ⟨rfl, rfl⟩ | ⟨hne, h'⟩
        · exact ⟨by rw [hcells, setL_length]; exact hwi.1, setE_flat hwi.1 hoff hwi.2 hyf⟩
        · exact row.wid j u h'
      · rcases hset j u hu with ⟨rfl, rfl⟩ | ⟨hne, h'⟩
        · rw [hcells]
          by_cases hjj : off ≤ jj ∧ jj < off + ys.length
          · have hlt : jj - off < cy.cells.size := by omega
            obtain ⟨q1, q2⟩ := d2 (jj - off) cy.cells[jj - off] (Array.getElem?_eq_getElem hlt)
            refine ⟨cy.cells[jj - off], ?_, q1, fun z hz => ?_, fun h => by cases h⟩
            · have := setCells_in (ρ k).ablk cy.cells.toList ((ρ k).base + j * es + off) w (fun q hq => by
                rw [show (ρ k).base + j * es + off + q = (ρ k).base + (j * es + off + q) by omega]; exact hsome _ (by omega)) (jj - off) cy.cells[jj - off] (by simp [hlt])
              rwa [show (ρ k).base + j * es + off + (jj - off) = (ρ k).base + j * es + jj by omega] at this
            · rw [setL_get _ _ _ _ (by rw [hwi.1]; exact hoff), if_pos hjj] at hz
              obtain ⟨u0, u1, u2⟩ := g2 _ z hz
              have hfz := hyf z (List.mem_of_getElem? hz)
              have := handV_ok (ks := []) hR1.hr heq u0 (fun k hk => by rw [uniq_mem]; exact .inl (skeysC_mem (List.mem_of_getElem? u1) hk)) u2
                ((q2 u0 u1).mono hF1 (fun _ _ _ _ h => h) (fun _ _ => agree.refl _))
              exact mono (this.flatρ hfz)
          · obtain ⟨c', q1, q2, q3, q4⟩ := row.cell j xs[j] jj (List.getElem?_eq_getElem hi) hj
            refine ⟨c', ?_, q2, fun z hz => ?_, fun h => by cases h⟩
            · rw [setCells_out]; exact q1
              intro _; omega
            · rw [setL_get _ _ _ _ (by rw [hwi.1]; exact hoff), if_neg hjj] at hz
              exact mono (q3 z hz)
        · obtain ⟨c', q1, q2, q3, q4⟩ := row.cell j u jj h' hj
          refine ⟨c', ?_, q2, fun z hz => mono (q3 z hz), fun h => by cases h⟩
          rw [setCells_out]; exact q1
          intro _
          by_cases hc : (ρ k).base + j * es + jj < (ρ k).base + i * es + off
          · exact .inl hc
          · right
            rw [hlen]
            by_cases hc2 : (ρ k).base + i * es + off + ys.length ≤ (ρ k).base + j * es + jj
            · exact hc2
            · exact absurd (row_div hj (by omega) (by omega)) hne
      · rw [List.length_set] at h1
        rw [setCells_out]
        · exact e7 hon p h1 h2
        · intro _; right; rw [hlen]; omega
    · rw [upd_self] at hw
      have : owns ρ k (.arr es xs own false v) q p := by
        simp only [owns, List.length_set] at hw ⊢; exact hw
      exact ⟨fun hf => hF2 _ _ hf this, .inl this⟩
  · exact hk.elim
end
end Go.Proofs.YtbnpclndiichcaaGreatDoor.Eng
end
section
set_option linter.unusedVariables false
set_option linter.unusedSimpArgs false
namespace Go.Proofs.YtbnpclndiichcaaGreatDoor.Eng
open Go Go.Lib
set_option linter.unusedVariables false
set_option linter.unusedSimpArgs false

section
variable {P : Program} {gives : FuncId → Bool} {C : CL}
variable {B : Base} {n : Nat} {F : Fz} {ρ : Rho} {s : S} {a : Act} {w : World} {o : Oper} {K : S → Prop} {T : Nat → Prop}

theorem agg_under {t : TypeId} (hb : aggB P t = true) : ∃ d, P.underlying t = some d := by
  unfold aggB at hb
  split at hb <;> first | exact ⟨_, by assumption⟩ | cases hb

theorem part_run {t : TypeId} {xs : List V} {vs : Array Value} {off : Nat} {v : V} {d : TypeDesc} (hd : P.underlying t = some d) (hv : VR (clOf w) F ρ (.agg xs) (.agg vs)) (h : partV P t xs off = some v) :
    ∃ c, (∀ w', (part t vs off).run P w' = .ok c w') ∧ VR (clOf w) F ρ v c := by
  cases hv with
  | agg hn hk hc =>
  unfold partV at h
  cases hb : aggB P t
  · rw [hb] at h
    simp only [cond_false] at h
    have hlt : off < vs.size := by
      have := (List.getElem?_eq_some_iff.1 h).1
      omega
    exact ⟨vs[off], fun w' => by simp [part, isAgg_run hd, hb, hlt], hc off v vs[off] h (Array.getElem?_eq_getElem hlt)⟩
  · rw [hb] at h
    simp only [cond_true] at h
    cases hl : Nat.ble (off + szOf P t) xs.length
    · rw [hl] at h; cases h
    rw [hl] at h
    cases h
    have hl := Nat.le_of_ble_eq_true hl
    refine ⟨.agg (vs.extract off (off + szOf P t)), fun w' => by simp [part, isAgg_run hd, hb, sizeOf_run hd], .agg ?_ (fun i c hi => ?_) (fun i u c hu hi => ?_)⟩
    · rw [cutL_length hl, Array.size_extract]; omega
    · rw [Array.getElem?_extract] at hi
      split at hi
      · exact hk _ _ hi
      · cases hi
    · rw [Array.getElem?_extract] at hi
      split at hi
      · rename_i hh
        rw [cutL_get (by omega)] at hu
        exact hc _ _ _ hu hi
      · cases hi

theorem eqT_under {D : Nat} {t : TypeId} {x y : V} {b : Bool} (h : eqT P D t x y = some b) : ∃ d, P.underlying t = some d := by
  cases D with
  | zero => cases h
  | succ D =>
    cases hu : P.underlying t with
    | none => simp only [eqT, hu] at h; cases h
    | some d => exact ⟨d, rfl⟩

theorem andO_some {p q : Option Bool} {r : Bool} (h : andO p q = some r) : ∃ p' q', p = some p' ∧ q = some q' ∧ r = (p' && q') := by
  unfold andO at h
  split at h
  · cases h; exact ⟨_, _, rfl, rfl, rfl⟩
  · cases h

theorem eqT_ok : ∀ (D : Nat) (t : TypeId) (x y : V) (b : Bool) (cx cy : Value), eqT P D t x y = some b → VR (clOf w) F ρ x cx → VR (clOf w) F ρ y cy → ∀ d, D ≤ d → ∀ w', (Op.equalIn d t cx cy).run P w' = .ok b w' := by
  intro D
  induction D with
  | zero => intro t x y b cx cy h; cases h
  | succ D ih =>
    intro t x y b cx cy h hx hy d hd w'
    obtain ⟨d, rfl⟩ : ∃ d', d = d' + 1 := ⟨d - 1, by omega⟩
    cases hu : P.underlying t with
    | none => simp only [eqT, hu] at h; cases h
    | some td =>
    simp only [eqT, hu] at h
    cases td <;> simp only at h <;> try (cases h; done)
    · split at h
      · have := hx.c_inv; subst this
        have := hy.c_inv; subst this
        cases h
        exact run_equalIn_bool w' d t _ _ hu
      · cases h
    · split at h
      · have := hx.c_inv; subst this
        have := hy.c_inv; subst this
        split at h
        · rename_i hk; subst hk; cases h
          exact run_equalIn_int w' d t _ _ _ _ hu
        · cases h
      · cases h
    · split at h
      · have := hx.c_inv; subst this
        have := hy.c_inv; subst this
        cases h
        exact run_equalIn_string w' d t _ _ hu
      · cases h
    · rename_i m e
      split at h
      case h_2 => cases h
      rename_i xs ys
      cases hx with
      | @agg _ vs h1 h2 h3 =>
      cases hy with
      | @agg _ us g1 g2 g3 =>
      cases he : P.info? e with
      | none => rw [he] at h; cases h
      | some it =>
      rw [he] at h
      simp only [Option.isSome_some, cond_true] at h
      have hco : P.cellsOf e = szOf P e := by simp [Program.cellsOf, szOf, he]
      rw [run_equalIn_array w' d vs us hu he, hco]
      generalize List.range m = l at h
      clear hu
      induction l generalizing b with
      | nil => simp only [eqEs] at h; cases h; simp [Op.eqItems]
      | cons f r ihl =>
        simp only [eqEs] at h
        split at h
        case h_2 => cases h
        rename_i p q hp1 hp2
        obtain ⟨b1, b2, e1, e2, rfl⟩ := andO_some h
        obtain ⟨fd, hfd⟩ := eqT_under e1
        obtain ⟨c1, r1, v1⟩ := part_run hfd (.agg h1 h2 h3) hp1
        obtain ⟨c2, r2, v2⟩ := part_run hfd (.agg g1 g2 g3) hp2
        have := ih e p q b1 c1 c2 e1 v1 v2 d (by omega) w'
        simp only [Op.eqItems, Sem.run_bind, r1, r2, this, Result.andThen_ok]
        cases b1
        · simp
        · simpa using ihl b2 e2
    · rename_i fs
      split at h
      case h_2 => cases h
      rename_i xs ys
      cases hp : P.stoodInHeld t with
      | true => rw [hp] at h; cases h
      | false =>
      rw [hp] at h
      simp only [cond_false] at h
      cases hx with
      | @agg _ vs h1 h2 h3 =>
      cases hy with
      | @agg _ us g1 g2 g3 =>
      have hfo : P.fieldsOf t = fs := by simp [Program.fieldsOf, hu]
      rw [run_equalIn_struct w' d t vs us (by rw [hfo]; exact hu) hp, hfo]
      generalize fs.toList = l at h
      clear hu hfo
      induction l generalizing b with
      | nil => simp only [eqFs] at h; cases h; simp [Op.eqFields]
      | cons f r ihl =>
        simp only [eqFs] at h
        cases hn : f.name == "_" with
        | true =>
          rw [hn] at h
          have hne : ¬ f.name ≠ "_" := by simpa using hn
          simp only [Op.eqFields, if_neg hne]
          exact ihl b h
        | false =>
          rw [hn] at h
          have hne : f.name ≠ "_" := by simpa using hn
          simp only [cond_false] at h
          split at h
          case h_2 => cases h
          rename_i p q hp1 hp2
          obtain ⟨b1, b2, e1, e2, rfl⟩ := andO_some h
          obtain ⟨fd, hfd⟩ := eqT_under e1
          obtain ⟨c1, r1, v1⟩ := part_run hfd (.agg h1 h2 h3) hp1
          obtain ⟨c2, r2, v2⟩ := part_run hfd (.agg g1 g2 g3) hp2
          have := ih f.type p q b1 c1 c2 e1 v1 v2 d (by omega) w'
          simp only [Op.eqFields, if_pos hne, Sem.run_bind, r1, r2, this, Result.andThen_ok]
          cases b1
          · simp
          · simpa using ihl b2 e2

theorem ok_binA {op : BinOp} {t u : TypeId} {x y : Operand} {xs ys : List V} (ho : o.op = .binOp op t x y u) (hR : RelF B n F ρ s a w) (hx : s.ev x = .agg xs) (hy : s.ev y = .agg ys)
    (hk : binA (envP P n gives C) op t xs ys fun v => fin (envP P n gives C) o s v K) : PurOk C P n gives F ρ s o a w K := by
  unfold binA at hk
  cases hg : (envP P n gives C).P.eqGuardType (envP P n gives C).P.depth t with
  | true => rw [hg] at hk; exact hk.elim
  | false =>
  rw [hg] at hk
  simp only [cond_false] at hk
  have hg : P.eqGuardType P.depth t = false := hg
  split at hk
  case h_2 => exact hk.elim
  rename_i b hb
  have ex := hR.ev x
  have ey := hR.ev y
  rw [hx] at ex
  rw [hy] at ey
  generalize hcx : a.eval x = cx at ex
  generalize hcy : a.eval y = cy at ey
  have heq : ∀ w, (Op.equalIn 10000 t cx cy).run P w = .ok b w := eqT_ok 9 t _ _ b cx cy hb ex ey 10000 (by omega)
  cases ex with
  | @agg _ vs h1 h2 h3 =>
  cases ey with
  | @agg _ us g1 g2 g3 =>
  split at hk
  · refine op_bin ho hR hcx hcy (fun w => ?_) rfl hk
    simp only [Sem.run_bind, run_eqGuard_agg w _ t x y vs us hg, Result.andThen_ok, run_eql_struct, heq]
  · refine op_bin ho hR hcx hcy (fun w => ?_) rfl hk
    simp only [Sem.run_bind, run_eqGuard_agg w _ t x y vs us hg, Result.andThen_ok, run_neq_struct, heq]
  · exact hk.elim

theorem ok_bin {op : BinOp} {t u : TypeId} {x y : Operand} (ho : o.op = .binOp op t x y u) (hR : RelF B n F ρ s a w)
    (hk : binC (envP P n gives C) op t (constOf y) (s.ev x) (s.ev y) fun v => fin (envP P n gives C) o s v K) : PurOk C P n gives F ρ s o a w K := by
  unfold binC at hk
  split at hk
  · rename_i hx hy; exact ok_binI ho hR hx hy hk
  · rename_i i j hx hy
    have ex := mapEvC hR hx
    have ey := mapEvC hR hy
    unfold binS at hk
    split at hk
    · split at hk
      · exact hk.elim
      · rename_i hj; exact op_bin ho hR ex ey (fun _ => run_cat hj) rfl hk
    · obtain ⟨r, h1, h2, h3⟩ := pureC_str hk
      exact op_bin ho hR ex ey (fun _ => run_strOp h1) h2 h3
  · rename_i i j hx hy
    have ex := mapEvC hR hx
    have ey := mapEvC hR hy
    obtain ⟨hb, hk⟩ := cond_inv hk
    obtain ⟨r, h1, h2, h3⟩ := pureC_bool hk
    have ht : P.underlying t = some .bool := by
      have hb : isBool P t = true := hb
      unfold isBool at hb
      split at hb
      · assumption
      · cases hb
    exact op_bin ho hR ex ey (fun _ => run_boolOp ht h1) h2 h3
  · rename_i xs ys hx hy; exact ok_binA ho hR hx hy hk
  · exact ok_binN ho hR hk
end
end Go.Proofs.YtbnpclndiichcaaGreatDoor.Eng
end
section
set_option linter.unusedVariables false
set_option linter.unusedSimpArgs false
namespace Go.Proofs.YtbnpclndiichcaaGreatDoor.Eng
open Go Go.Lib
set_option linter.unusedVariables false
set_option linter.unusedSimpArgs false

section
variable {w : World} {F : Fz} {ρ : Rho} {hp : List (Nat × Slot)} {ks : List Nat}

theorem handH_look {all : List Nat} : ∀ (l : List Nat) (i0 : Nat) (h : List (Nat × Slot)), handH hp all i0 l = some h →
    (∀ j y, look j h = some y → i0 ≤ j ∧ ∃ k x, l[j - i0]? = some k ∧ look k hp = some x ∧ handS hp all x = some y) ∧
    (∀ i k, l[i]? = some k → ∃ x y, look k hp = some x ∧ handS hp all x = some y ∧ look (i0 + i) h = some y)
  | [], i0, h, e => by
    cases e
    exact ⟨fun j y h => by simp [look] at h, fun i k h => by simp at h⟩
  | k :: r, i0, h, e => by
    simp only [handH] at e
    split at e
    · rename_i x hx
      split at e
      · rename_i y z hy hz
        cases e
        obtain ⟨h1, h2⟩ := handH_look r (i0 + 1) z hz
        refine ⟨fun j y' hj => ?_, fun i k' hi => ?_⟩
        · rw [look_cons] at hj
          split at hj
          · rename_i e; subst e; cases hj
            exact ⟨Nat.le_refl _, k, x, by simp, hx, hy⟩
          · obtain ⟨q1, k', x', q2, q3, q4⟩ := h1 j y' hj
            exact ⟨by omega, k', x', by rw [show j - i0 = (j - (i0 + 1)) + 1 by omega]; simpa using q2, q3, q4⟩
        · cases i with
          | zero => simp at hi; subst hi; exact ⟨x, y, hx, hy, by rw [look_cons]; simp⟩
          | succ i =>
            simp at hi
            obtain ⟨x', y', q1, q2, q3⟩ := h2 i k' hi
            refine ⟨x', y', q1, q2, ?_⟩
            rw [look_cons, if_neg (by omega), show i0 + (i + 1) = i0 + 1 + i by omega]; exact q3
      · cases e
    · cases e

theorem nodupB_get : ∀ {l : List Nat}, nodupB l = true → ∀ i j k : Nat, l[i]? = some k → l[j]? = some k → i = j
  | [], _, i, j, k, h, _ => by simp at h
  | a :: r, hn, i, j, k, hi, hj => by
    simp only [nodupB, Bool.and_eq_true, Bool.not_eq_true'] at hn
    have hno : ∀ m, r[m]? = some a → False := fun m hm => by
      have := List.any_eq_false.1 hn.1 a (List.mem_of_getElem? hm)
      simp [Nat.beq_refl] at this
    cases i with
    | zero =>
      cases j with
      | zero => rfl
      | succ j => simp at hi hj; subst hi; exact (hno j hj).elim
    | succ i =>
      cases j with
      | zero => simp at hi hj; subst hj; exact (hno i hi).elim
      | succ j => simp at hi hj; rw [nodupB_get hn.2 i j k hi hj]

theorem handRho_get {i k : Nat} (h : ks[i]? = some k) : handRho ρ ks i = { ρ k with ver := 0 } := by
  simp [handRho, List.getD, h]

theorem nil_froz (hp : List (Nat × Slot)) : ∀ k, look k hp = (look k hp).map (froz [] k) := fun k => by
  cases look k hp <;> simp [froz_nil]

mutual
theorem rowV_ok (hh : HR w F ρ hp) : ∀ (v : V) {v' : V} {c : Value}, rowV hp ks v = some v' → VR (clOf w) F ρ v c → VR (clOf w) F (handRho ρ ks) v' c
  | .sla k u, v', c, h, hv => by
    simp only [rowV] at h
    split at h
    · rename_i es xs own frz ver i hl hi
      cases hb : Nat.beq u ver
      · rw [hb] at h; cases h
      · rw [hb] at h; cases h
        have := Nat.eq_of_beq_eq_true hb
        subst this
        obtain ⟨_, e1, e2, e3, e4⟩ := hh.row hl
        cases hv with
        | sla hv h' =>
          refine .sla (Nat.zero_le _) fun _ => ?_
          rw [handRho_idx hi]
          exact h' e3.symm
    · cases h
  | .slm k p q u, v', c, h, hv => by
    simp only [rowV] at h
    split at h
    · rename_i es xs own frz ver i hl hi
      cases hb : Nat.beq u ver
      · rw [hb] at h; cases h
      · rw [hb] at h; cases h
        have := Nat.eq_of_beq_eq_true hb
        subst this
        obtain ⟨_, e1, e2, e3, e4⟩ := hh.row hl
        cases hv with
        | slm hv h' =>
          refine .slm (Nat.zero_le _) fun _ => ?_
          rw [handRho_idx hi]
          exact h' e3.symm
    · cases h
  | .agg cs, v', c, h, hv => by
    simp only [rowV] at h
    cases hc : rowV.rowC hp ks cs with
    | none => rw [hc] at h; cases h
    | some ds =>
      rw [hc] at h; cases h
      obtain ⟨l1, l2⟩ := rowC_ok hh cs hc
      cases hv with
      | agg hn hk h' =>
        refine .agg (l1.trans hn) hk fun i u d hu hd => ?_
        have hi : i < cs.length := by rw [← l1]; exact (List.getElem?_eq_some_iff.1 hu).1
        exact l2 i cs[i] u d (List.getElem?_eq_getElem hi) hu (h' i _ d (List.getElem?_eq_getElem hi) hd)
  | .fn f x y, v', c, h, hv => by
    simp only [rowV] at h
    cases hb : (skeys.skeysC x ++ skeys.skeysC y).isEmpty
    · rw [hb] at h; cases h
    · rw [hb] at h
      have : skeys (.fn f x y) = [] := by simpa [skeys] using hb
      exact handV_ok hh (nil_froz hp) (.fn f x y) (by rw [this]; intro k hk; cases hk) h hv
  | .c u, v', c, h, hv => handV_ok hh (nil_froz hp) (.c u) (fun k hk => by cases hk) h hv
  | .sl a b d, v', c, h, hv => handV_ok hh (nil_froz hp) (.sl a b d) (fun k hk => by cases hk) h hv
  | .ptr a b, v', c, h, hv => handV_ok hh (nil_froz hp) (.ptr a b) (fun k hk => by cases hk) h hv
  | .mp a, v', c, h, hv => handV_ok hh (nil_froz hp) (.mp a) (fun k hk => by cases hk) h hv
  | .pe .., v', c, h, _ | .ep .., v', c, h, _ | .tup _, v', c, h, _ | .it _, v', c, h, _ | .bad, v', c, h, _ => by simp [rowV, handV] at h
theorem rowC_ok (hh : HR w F ρ hp) : ∀ (vs : List V) {vs' : List V}, rowV.rowC hp ks vs = some vs' →
    vs'.length = vs.length ∧ ∀ (i : Nat) (v v' : V) (c : Value), vs[i]? = some v → vs'[i]? = some v' → VR (clOf w) F ρ v c → VR (clOf w) F (handRho ρ ks) v' c
  | [], vs', h => by cases h; exact ⟨rfl, fun i v v' c hv => by simp at hv⟩
  | v :: r, vs', h => by
    simp only [rowV.rowC] at h
    cases hx : rowV hp ks v with
    | none => rw [hx] at h; cases h
    | some x =>
      cases hy : rowV.rowC hp ks r with
      | none => rw [hx, hy] at h; cases h
      | some y =>
        rw [hx, hy] at h; cases h
        have hv := fun c => rowV_ok hh v (v' := x) (c := c) hx
        obtain ⟨l1, l2⟩ := rowC_ok hh r hy
        refine ⟨by simp [l1], fun i u u' c hu hu' => ?_⟩
        cases i with
        | zero => simp at hu hu'; subst hu; subst hu'; exact hv c
        | succ i => simp at hu hu'; exact l2 i u u' c hu hu'
end

theorem handS_ok (hh : HR w F ρ hp) {i k : Nat} {x y : Slot} (hk : ks[i]? = some k) (hl : look k hp = some x) (h : handS hp ks x = some y) :
    SR w F (handRho ρ ks) i y ∧ ∀ g o, owns (handRho ρ ks) i y g o ↔ owns ρ k x g o := by
  have hsr := hh.sr k x hl
  have hr := handRho_get (ρ := ρ) hk
  cases x with
  | cells kds cs =>
    simp only [handS] at h
    cases hc : rowV.rowC hp ks cs with
    | none => rw [hc] at h; cases h
    | some ds =>
      rw [hc] at h; cases h
      obtain ⟨l1, l2⟩ := rowC_ok hh cs hc
      refine ⟨fun j v hv => ?_, fun g o => by simp only [owns, hr, l1]⟩
      have hj : j < cs.length := by rw [← l1]; exact (List.getElem?_eq_some_iff.1 hv).1
      obtain ⟨c, c1, c2, c3⟩ := hsr j cs[j] (List.getElem?_eq_getElem hj)
      exact ⟨c, by rw [hr]; exact c1, c2, l2 j _ v c (List.getElem?_eq_getElem hj) hv c3⟩
  | arr es xs own frz ver =>
    cases h
    obtain ⟨h1, h2, h3, h4, h5, h6, h7⟩ := hsr
    refine ⟨?_, fun g o => by simp only [owns, hr]⟩
    simp only [SR, hr]
    refine ⟨h1, h2, trivial, h4, h5, fun j x t hx ht => ?_, h7⟩
    obtain ⟨c, c1, c2, c3, c4⟩ := h6 j x t hx ht
    exact ⟨c, c1, c2, fun z hz => (c3 z hz).flatρ (flat_cells (h5 j x hx).2 hz), c4⟩
  | refs xs => cases h
  | map kvs =>
    cases h
    obtain ⟨es, n, h1, h2, h3⟩ := hsr
    refine ⟨?_, fun g o => by simp only [owns, hr]⟩
    simp only [SR, hr]
    refine ⟨es, n, h1, h2, fun j p e hp he => ?_⟩
    obtain ⟨e1, e2, e3, e4⟩ := h3 j p e hp he
    exact ⟨e1, e2.mono (fun _ _ h => h) (fun _ _ _ _ h => h) (fun j hj => by rw [e4] at hj; cases hj), e3, e4⟩
  | iter a b => cases h

/-- The heap that is handed over. -/
theorem handH_HR (hh : HR w F ρ hp) (hn : nodupB ks = true) {h : List (Nat × Slot)} (he : handH hp ks 0 ks = some h) : HR w F (handRho ρ ks) h ∧
    ∀ j y, look j h = some y → ∃ k x, ks[j]? = some k ∧ look k hp = some x ∧ handS hp ks x = some y ∧ ∀ g o, owns (handRho ρ ks) j y g o ↔ owns ρ k x g o := by
  obtain ⟨h1, h2⟩ := handH_look ks 0 h he
  have key : ∀ j y, look j h = some y → ∃ k x, ks[j]? = some k ∧ look k hp = some x ∧ handS hp ks x = some y ∧ SR w F (handRho ρ ks) j y ∧ ∀ g o, owns (handRho ρ ks) j y g o ↔ owns ρ k x g o := fun j y hj => by
    obtain ⟨_, k, x, q1, q2, q3⟩ := h1 j y hj
    rw [Nat.sub_zero] at q1
    obtain ⟨r1, r2⟩ := handS_ok hh q1 q2 q3
    exact ⟨k, x, q1, q2, q3, r1, r2⟩
  refine ⟨⟨fun j y hj => ?_, fun j y g o hj ho => ?_, fun i j x y g o hi hj hij ho hoj => ?_, hh.fin⟩, fun j y hj => ?_⟩
  · obtain ⟨k, x, _, _, _, r, _⟩ := key j y hj; exact r
  · obtain ⟨k, x, _, q2, _, _, r⟩ := key j y hj
    exact hh.free k x g o q2 ((r g o).1 ho)
  · obtain ⟨k, x', p1, q2, _, _, r⟩ := key i x hi
    obtain ⟨k', y', p1', q2', _, _, r'⟩ := key j y hj
    refine hh.apart k k' x' y' g o q2 q2' (fun e => hij ?_) ((r g o).1 ho) ((r' g o).1 hoj)
    subst e
    exact nodupB_get hn i j k p1 p1'
  · obtain ⟨k, x, p1, q2, q3, _, r⟩ := key j y hj
    exact ⟨k, x, p1, q2, q3, r⟩
end
end Go.Proofs.YtbnpclndiichcaaGreatDoor.Eng
end
section
set_option linter.unusedVariables false
set_option linter.unusedSimpArgs false
namespace Go.Proofs.YtbnpclndiichcaaGreatDoor.Eng
open Go Go.Lib
set_option linter.unusedVariables false
set_option linter.unusedSimpArgs false

/-- The cells that the slots of a heap own. -/
def OwnH (ρ : Rho) (h : List (Nat × Slot)) (g o : Nat) : Prop := ∃ k x, look k h = some x ∧ owns ρ k x g o
/-- What a called function comes back with. -/
structure Back (w : World) (F : Fz) (ρ : Rho) (h : List (Nat × Slot)) (w' : World) (F' : Fz) (ρ' : Rho) (h' : List (Nat × Slot)) : Prop where
  hr : HR w' F' ρ' h'
  size : w.heap.size ≤ w'.heap.size
  same : ∀ g, g < w.heap.size → (∀ o, ¬ OwnH ρ h g o) → w'.heap[g]? = w.heap[g]?
  cell : ∀ g o, g < w.heap.size → ¬ OwnH ρ h g o → clOf w' g o = clOf w g o
  owned : ∀ g o, OwnH ρ' h' g o → w.heap.size ≤ g ∨ OwnH ρ h g o
  fup : ∀ g o, F g o → F' g o
  fnew : ∀ g o, F' g o → g < w.heap.size → F g o ∨ OwnH ρ h g o
  keep : ∀ k, k < 64 → k < fixedN h → (ρ' k).blk = (ρ k).blk
  frz : Wd w w' ∧ ∀ g o, g < w.heap.size → w'.frozen? ⟨g, o, none⟩ = w.frozen? ⟨g, o, none⟩
/-- Objects of memory that stay as they are. -/
def Keeps (G : List (Nat × Obj)) (w : World) (F : Fz) : Prop := ∀ x ∈ G, w.heap[x.1]? = some x.2 ∧ ∀ o, F x.1 o
/-- Memory, seen from where a function began. -/
def FrameB (B : Base) (w : World) (F : Fz) : Prop :=
  B.w0.heap.size ≤ w.heap.size ∧ (∀ g, g < B.w0.heap.size → (∀ o, ¬ B.own g o) → w.heap[g]? = B.w0.heap[g]?) ∧ ∀ g o, B.F g o → F g o
/-- What it means that a function, called where C says, comes back with K. -/
def SemC (P : Program) (C : World → Fz → Prop) (f : FuncId) (args : List V) (h : List (Nat × Slot)) (K : List V → List (Nat × Slot) → Prop) : Prop :=
  ∀ (w : World) (F : Fz) (ρ : Rho) (vs : Array Value), C w F → args.length = vs.size → (∀ (i : Nat) (v : V) (c : Value), args[i]? = some v → vs[i]? = some c → VR (clOf w) F ρ v c) → HR w F ρ h →
    Calls P f vs w fun e w' => ∃ c rs h' F' ρ', e = .returned c ∧ VR (clOf w') F' ρ' (one rs) c ∧ Back w F ρ h w' F' ρ' h' ∧ K rs h'
abbrev SemFun (P : Program) (G : List (Nat × Obj)) := SemC P (Keeps G)
abbrev SemAt (P : Program) (B : Base) := SemC P (FrameB B)
theorem SemC.at {P : Program} {G : List (Nat × Obj)} {f : FuncId} {args : List V} {h : List (Nat × Slot)} {K : List V → List (Nat × Slot) → Prop} (hs : SemFun P G f args h K) {B : Base} (hG : Keeps G B.w0 B.F) (hB : ∀ g o, B.own g o → ¬ B.F g o) : SemAt P B f args h K :=
  fun w F ρ vs hf => hs w F ρ vs fun x hx => by
    obtain ⟨h1, h2⟩ := hG x hx
    have hlt : x.1 < B.w0.heap.size := (Array.getElem?_eq_some_iff.1 h1).1
    exact ⟨(hf.2.1 x.1 hlt fun o ho => hB _ _ ho (h2 o)).trans h1, fun o => hf.2.2 _ _ (h2 o)⟩
/-- The second state is another look at what the first one is. -/
def Co (s s' : S) : Prop := ∀ (B : Base) (n : Nat) (a : Act) (w : World), Rel B n s a w → Rel B n s' a w
/-- Calls and loops come to what they are said to come to. -/
structure Sound (P : Program) (B : Base) (C : CL) : Prop where
  call : ∀ g as h k, C.call g as h k → SemAt P B g as h k
  loop : ∀ m F s, C.loop m F s → ∃ (I : Nat → S → Prop) (N : Nat) (s0 : S), Co s s0 ∧ I N s0 ∧ ∀ N s, I N s → ∃ k : S → Prop, F k s ∧ ∀ s', k s' → ∃ M s2, M < N ∧ Co s' s2 ∧ I M s2

section
variable {P : Program} {gives : FuncId → Bool} {C : CL}
variable {B : Base} {n : Nat} {F : Fz} {ρ ρ' : Rho} {s : S} {a : Act} {w : World} {o : Oper} {K : S → Prop} {T : Nat → Prop}

/-- The caller's slots and what is left of the callee's, side by side; X are cells that are spoken for. -/
structure Imp (B : Base) (n : Nat) (F : Fz) (ρ : Rho) (s : S) (a : Act) (w : World) (ρ' : Rho) (h : List (Nat × Slot)) (X : Nat → Nat → Prop) : Prop where
  rel : RelF B n F ρ s a w
  hr : HR w F ρ' h
  apart : ∀ g p, OwnH ρ s.hp g p → ¬ OwnH ρ' h g p
  owned : ∀ g p, OwnH ρ' h g p → B.w0.heap.size ≤ g ∨ B.own g p
  xs : ∀ g p, X g p → ¬ OwnH ρ s.hp g p ∧ ¬ OwnH ρ' h g p

theorem OwnH.del {h : List (Nat × Slot)} {k g p : Nat} (ho : OwnH ρ (del k h) g p) : OwnH ρ h g p := by
  obtain ⟨j, x, hl, ho⟩ := ho
  rw [look_del] at hl
  split at hl
  · cases hl
  · exact ⟨j, x, hl, ho⟩

theorem HR.del {hp : List (Nat × Slot)} (h : HR w F ρ hp) (k : Nat) : HR w F ρ (del k hp) := by
  have get : ∀ j x, look j (Eng.del k hp) = some x → look j hp = some x := fun j x hl => by
    rw [look_del] at hl
    split at hl
    · cases hl
    · exact hl
  exact ⟨fun j x hl => h.sr j x (get j x hl), fun j x g p hl => h.free j x g p (get j x hl), fun i j x y g p hi hj => h.apart i j x y g p (get i x hi) (get j y hj), h.fin⟩

/-- A slot is bound anew, in cells that are spoken for. -/
theorem Imp.bind {h : List (Nat × Slot)} {X Y : Nat → Nat → Prop} (hi : Imp B n F ρ s a w ρ' h Y) (k : Nat) (x : Slot) (l : Loc) (hk64 : 64 ≤ k) (hx : SR w F (upd ρ k l) k x)
    (hfree : ∀ g p, owns (upd ρ k l) k x g p → ¬ F g p ∧ w.frozen? ⟨g, p, none⟩ = false ∧ g < w.heap.size) (hY : ∀ g p, owns (upd ρ k l) k x g p → Y g p)
    (how : ∀ g p, owns (upd ρ k l) k x g p → B.w0.heap.size ≤ g ∨ B.own g p) (hX : ∀ g p, X g p → Y g p ∧ ¬ owns (upd ρ k l) k x g p) :
    Imp B n F (upd ρ k l) (s.bind k x) a w ρ' h X := by
  have own' : ∀ g p, OwnH (upd ρ k l) (s.bind k x).hp g p → owns (upd ρ k l) k x g p ∨ OwnH ρ s.hp g p := fun g p ⟨j, y, hl, ho⟩ => by
    simp only [S.bind, look_ins, look_map] at hl
    by_cases e : j = k
    · subst e; simp only [if_true] at hl; cases hl; exact .inl ho
    · simp only [e, if_false] at hl
      cases hu : look j s.hp with
      | none => rw [hu] at hl; cases hl
      | some u => rw [hu] at hl; cases hl; exact .inr ⟨j, u, hu, (owns_upd l e).1 (owns_kill.1 ho)⟩
  refine ⟨hi.rel.bind k x l hx hfree (fun g p ho j y hj hoj => (hi.xs g p (hY g p ho)).1 ⟨j, y, hj, hoj⟩) how hk64, hi.hr, fun g p ho => ?_, hi.owned, fun g p hxp => ⟨fun ho => ?_, (hi.xs g p (hX g p hxp).1).2⟩⟩
  · rcases own' g p ho with h1 | h1
    · exact (hi.xs g p (hY g p h1)).2
    · exact hi.apart g p h1
  · rcases own' g p ho with h1 | h1
    · exact (hX g p hxp).2 h1
    · exact (hi.xs g p (hX g p hxp).1).1 h1

/-- A slot of the callee is taken: its cells are spoken for. -/
theorem Imp.take {h : List (Nat × Slot)} {X : Nat → Nat → Prop} (hi : Imp B n F ρ s a w ρ' h X) {j : Nat} {y : Slot} (hj : look j h = some y) :
    Imp B n F ρ s a w ρ' (del j h) (fun g p => X g p ∨ owns ρ' j y g p) := by
  refine ⟨hi.rel, hi.hr.del j, fun g p ho hd => hi.apart g p ho hd.del, fun g p ho => hi.owned g p ho.del, fun g p hx => ?_⟩
  rcases hx with hx | hx
  · exact ⟨(hi.xs g p hx).1, fun hd => (hi.xs g p hx).2 hd.del⟩
  · refine ⟨fun ho => hi.apart g p ho ⟨j, y, hj, hx⟩, fun ⟨i, z, hz, hoz⟩ => ?_⟩
    rw [look_del] at hz
    split at hz
    · cases hz
    · rename_i hne
      exact hi.hr.apart i j z y g p hz hj hne hoz hx

theorem Imp.less {h : List (Nat × Slot)} {X Y : Nat → Nat → Prop} (hi : Imp B n F ρ s a w ρ' h Y) (hX : ∀ g p, X g p → Y g p) : Imp B n F ρ s a w ρ' h X :=
  ⟨hi.rel, hi.hr, hi.apart, hi.owned, fun g p hx => hi.xs g p (hX g p hx)⟩

def fresh1 (d j j' k : Nat) : Prop := ∃ q, j ≤ q ∧ q < j' ∧ k = dkey d q

theorem VR.upd {cl : Cl} {v : V} {c : Value} (h : VR cl F ρ v c) {k : Nat} {l : Loc} (hk : k ∉ keysV v) : VR cl F (Eng.upd ρ k l) v c :=
  h.mono (fun _ _ h => h) (fun _ _ _ _ h => h) fun j hj => by
    have : j ≠ k := fun e => hk (e ▸ hj)
    rw [upd_ne _ _ this]; exact agree.refl _

theorem asRow_ok {h : List (Nat × Slot)} {X : Nat → Nat → Prop} {es : Nat} {v : V} {c : Value} {K : List V → Bool → Bool → List (Nat × Slot) → Prop} (hi : Imp B n F ρ s a w ρ' h X) (hv : VR (clOf w) F ρ' v c)
    (hk : asRow (envP P n gives C) es v h K) (k : Nat) (hk64 : 64 ≤ k) : ∃ xs own frz h1 l, K xs own frz h1 ∧ Imp B n F (upd ρ k l) (s.bind k (.arr es xs own frz 0)) a w ρ' h1 X ∧ VR (clOf w) F (upd ρ k l) (.sla k 0) c := by
  unfold asRow at hk
  split at hk
  · rename_i es' fl xs
    obtain ⟨hb, hk⟩ := cond_inv hk
    have hv' : VR (clOf w) F ρ' (.sl es fl xs) c := by
      simp only [Bool.or_eq_true, List.isEmpty_iff] at hb
      rcases hb with h | h
      · rw [Nat.eq_of_beq_eq_true h]; exact hv
      · subst h; exact hv.nilEs
    cases hv' with
    | @sl _ _ _ ad m cap g p cf hn hc hf ha hw hF hvv =>
      subst hn
      have hno : ∀ q i, ¬ owns (upd ρ k ⟨0, g, p, cap, xs.length, es, 0⟩) k (.arr es xs fl true 0) q i := fun q i ho => by
        simp only [owns, upd_same] at ho
        obtain ⟨_, h2, h3 | ⟨h3, h4, h5⟩⟩ := ho
        · cases h3.1
        · rw [hf h3] at h5; omega
      refine ⟨xs, fl, true, h, ⟨0, g, p, cap, xs.length, es, 0⟩, hk, hi.bind k _ _ hk64 ?_ (fun q i ho => absurd ho (hno q i)) (fun q i ho => absurd ho (hno q i)) (fun q i ho => absurd ho (hno q i)) (fun q i hx => ⟨hx, hno q i⟩), ?_⟩
      · show _ ∧ _
        rw [upd_same]
        refine ⟨rfl, rfl, rfl, hc, hw, fun i x j hx hj => ?_, fun ho q h1 h2 => ?_⟩
        · obtain ⟨q1, q2, q3⟩ := hF i x j hx hj
          exact ⟨cf i j, q2, q3, fun y hy => (hvv i x j y hx hy).flatρ (flat_cells (hw i x hx).2 hy), fun _ => q1⟩
        · simp only at h1 h2; rw [hf ho] at h2; omega
      · refine .sla (by simp) fun _ => ?_
        rw [upd_same]; exact ⟨rfl, rfl, ha⟩
  · rename_i j
    split at hk
    · rename_i es' xs own frz hl
      obtain ⟨hb, hk1⟩ := cond_inv hk
      have := Nat.eq_of_beq_eq_true hb
      subst this
      have hsr := hi.hr.sr j _ hl
      obtain ⟨h1, h2, h3, h4, h5, h6, h7⟩ := hsr
      have hoe : ∀ q i, owns (upd ρ k (ρ' j)) k (.arr es xs own frz 0) q i ↔ owns ρ' j (.arr es xs own frz 0) q i := fun q i => by simp only [owns, upd_same]
      refine ⟨xs, own, frz, del j h, ρ' j, hk1, (hi.take hl).bind k _ _ hk64 ?_ (fun q i ho => hi.hr.free j _ q i hl ((hoe q i).1 ho)) (fun q i ho => .inr ((hoe q i).1 ho)) (fun q i ho => hi.owned q i ⟨j, _, hl, (hoe q i).1 ho⟩)
        (fun q i hx => ⟨.inl hx, fun ho => (hi.xs q i hx).2 ⟨j, _, hl, (hoe q i).1 ho⟩⟩), ?_⟩
      · show _ ∧ _
        rw [upd_same]
        refine ⟨h1, h2, h3, h4, h5, fun i x jj hx hj => ?_, h7⟩
        obtain ⟨c', c1, c2, c3, c4⟩ := h6 i x jj hx hj
        exact ⟨c', c1, c2, fun y hy => (c3 y hy).flatρ (flat_cells (h5 i x hx).2 hy), c4⟩
      · cases hv with
        | sla hv' h' =>
          refine .sla (Nat.zero_le _) fun _ => ?_
          rw [upd_same]
          exact h' h3.symm
    · exact hk.elim
  · exact hk.elim
end
end Go.Proofs.YtbnpclndiichcaaGreatDoor.Eng
end
section
set_option linter.unusedVariables false
set_option linter.unusedSimpArgs false
namespace Go.Proofs.YtbnpclndiichcaaGreatDoor.Eng
open Go Go.Lib
set_option linter.unusedVariables false
set_option linter.unusedSimpArgs false

section
variable {P : Program} {gives : FuncId → Bool} {C : CL}
variable {B : Base} {n : Nat} {F : Fz} {ρ' : Rho} {a : Act} {w : World}

theorem dkey_inj {d q q' : Nat} (h : dkey d q = dkey d q') : q = q' := by unfold dkey at h; omega

theorem VR.noKeys {ρ ρ2 : Rho} {cl : Cl} {v : V} {c : Value} (h : VR cl F ρ v c) (hk : keysV v = []) : VR cl F ρ2 v c :=
  h.mono (fun _ _ h => h) (fun _ _ _ _ h => h) fun j hj => by rw [hk] at hj; cases hj
theorem VR.same {ρ ρ2 : Rho} {cl : Cl} {v : V} {c : Value} (h : VR cl F ρ v c) (hk : ∀ k ∈ keysV v, ρ2 k = ρ k) : VR cl F ρ2 v c :=
  h.mono (fun _ _ h => h) (fun _ _ _ _ h => h) fun j hj => by rw [hk j hj]; exact agree.refl _

/-- Slots outside of D keep what they own. -/
def SKept (D : Nat → Prop) (ρ : Rho) (s : S) (ρ2 : Rho) (s2 : S) : Prop := ∀ k x, ¬ D k → look k s.hp = some x → ∃ x', look k s2.hp = some x' ∧ ∀ g p, owns ρ k x g p → owns ρ2 k x' g p
theorem SKept.refl (D : Nat → Prop) (ρ : Rho) (s : S) : SKept D ρ s ρ s := fun k x _ h => ⟨x, h, fun _ _ h => h⟩
theorem SKept.trans {D : Nat → Prop} {ρ ρ1 ρ2 : Rho} {s s1 s2 : S} (h : SKept D ρ s ρ1 s1) (h' : SKept D ρ1 s1 ρ2 s2) : SKept D ρ s ρ2 s2 := fun k x hn hl => by
  obtain ⟨x1, a1, a2⟩ := h k x hn hl
  obtain ⟨x2, b1, b2⟩ := h' k x1 hn a1
  exact ⟨x2, b1, fun g p ho => b2 g p (a2 g p ho)⟩
theorem SKept.bind {D : Nat → Prop} {ρ : Rho} {s : S} {k : Nat} (x : Slot) (l : Loc) (hD : D k) : SKept D ρ s (upd ρ k l) (s.bind k x) := fun j y hn hl => by
  have e : j ≠ k := fun e => hn (e ▸ hD)
  exact ⟨killS k y, by simp only [S.bind, look_ins, look_map, e, if_false, hl, Option.map_some], fun g p ho => owns_kill.2 ((owns_upd l e).2 ho)⟩
theorem SKept.reins {D : Nat → Prop} {ρ : Rho} {s : S} {k : Nat} (x : Slot) (hD : D k) : SKept D ρ s ρ (s.upd k x) := fun j y hn hl => by
  have e : j ≠ k := fun e => hn (e ▸ hD)
  exact ⟨y, by simp only [S.upd, look_ins, e, if_false]; exact hl, fun g p ho => ho⟩
theorem SKept.weak {D D' : Nat → Prop} {ρ ρ2 : Rho} {s s2 : S} (h : SKept D ρ s ρ2 s2) (hD : ∀ k, D k → D' k) : SKept D' ρ s ρ2 s2 := fun k x hn hl => h k x (fun hd => hn (hD k hd)) hl

def BackC (B : Base) (n : Nat) (F : Fz) (a : Act) (w : World) (ρ' : Rho) (X : Nat → Nat → Prop) (d : Nat) (cs : List V) (cf : Nat → Value) (j : Nat) (ρ : Rho) (s : S) (K : List V → Nat → S → List (Nat × Slot) → Prop) : Prop :=
  ∃ vs j' s' h' ρ2, K vs j' s' h' ∧ Imp B n F ρ2 s' a w ρ' h' X ∧ j ≤ j' ∧ vs.length = cs.length ∧ (∀ (i : Nat) (v : V), vs[i]? = some v → VR (clOf w) F ρ2 v (cf i)) ∧
    (∀ k ∈ keysV.keysC vs, fresh1 d j j' k) ∧ (∀ k, ¬ fresh1 d j j' k → ρ2 k = ρ k) ∧ (j' = j ∨ j' ≤ 16) ∧ SKept (fun k => inD d k = true) ρ s ρ2 s'

theorem backC_ok (d : Nat) : ∀ (D : Nat) (kds : List Kd) (cs : List V) (cf : Nat → Value) (j : Nat) (s : S) (h : List (Nat × Slot)) (K : List V → Nat → S → List (Nat × Slot) → Prop) (ρ : Rho) (X : Nat → Nat → Prop),
    Imp B n F ρ s a w ρ' h X → (∀ (i : Nat) (v : V), cs[i]? = some v → VR (clOf w) F ρ' v (cf i)) → backC (envP P n gives C) d D kds cs j s h K → BackC B n F a w ρ' X d cs cf j ρ s K := by
  intro D
  induction D with
  | zero => intro kds cs cf j s h K ρ X hi hv hk; exact hk.elim
  | succ D ih =>
    intro kds cs cf j s h K ρ X hi hv hk
    unfold backC at hk
    split at hk
    · exact ⟨[], j, s, h, ρ, hk, hi, Nat.le_refl _, rfl, fun i v h => by simp at h, fun k hk => by simp [keysV.keysC] at hk, fun _ _ => rfl, .inl rfl, .refl _ _ _⟩
    · rename_i kd r c cs
      have hc := hv 0 c rfl
      have hvr : ∀ (i : Nat) (v : V), cs[i]? = some v → VR (clOf w) F ρ' v (cf (i + 1)) := fun i v h => hv (i + 1) v (by simpa using h)
      have one : ∀ (v0 : V) (j1 : Nat) (s1 : S) (h1 : List (Nat × Slot)) (ρ1 : Rho), j ≤ j1 → Imp B n F ρ1 s1 a w ρ' h1 X → VR (clOf w) F ρ1 v0 (cf 0) → (∀ k ∈ keysV v0, fresh1 d j j1 k) → (∀ k, ¬ fresh1 d j j1 k → ρ1 k = ρ k) → (j1 = j ∨ j1 ≤ 16) → SKept (fun k => inD d k = true) ρ s ρ1 s1 →
          backC (envP P n gives C) d D r cs j1 s1 h1 (fun vs j' s' h' => K (v0 :: vs) j' s' h') → BackC B n F a w ρ' X d (c :: cs) cf j ρ s K := by
        intro v0 j1 s1 h1 ρ1 hj hi1 hv0 hk0 hρ h16 hsk hk
        obtain ⟨vs, j', s', h', ρ2, q1, q2, q3, q4, q5, q6, q7, q8, q9⟩ := ih r cs (fun i => cf (i + 1)) j1 s1 h1 _ ρ1 X hi1 hvr hk
        refine ⟨v0 :: vs, j', s', h', ρ2, q1, q2, by omega, by simp [q4], fun i v hiv => ?_, fun k hkk => ?_, fun k hkk => ?_, by omega, hsk.trans q9⟩
        · cases i with
          | zero =>
            simp at hiv
            subst hiv
            refine hv0.same fun k hkk => q7 k fun ⟨q, e1, e2, e3⟩ => ?_
            obtain ⟨p, p1, p2, p3⟩ := hk0 k hkk
            have := dkey_inj (p3.symm.trans e3)
            omega
          | succ i => simp at hiv; exact q5 i v hiv
        · simp only [keysV.keysC, List.mem_append] at hkk
          rcases hkk with hkk | hkk
          · obtain ⟨q, e1, e2, e3⟩ := hk0 k hkk; exact ⟨q, e1, by omega, e3⟩
          · obtain ⟨q, e1, e2, e3⟩ := q6 k hkk; exact ⟨q, by omega, e2, e3⟩
        · rw [q7 k fun ⟨q, e1, e2, e3⟩ => hkk ⟨q, by omega, e2, e3⟩]
          exact hρ k fun ⟨q, e1, e2, e3⟩ => hkk ⟨q, e1, by omega, e3⟩
      have hself : fresh1 d j (j + 1) (dkey d j) := ⟨j, Nat.le_refl _, by omega, rfl⟩
      have hother : ∀ k, ¬ fresh1 d j (j + 1) k → k ≠ dkey d j := fun k hk e => hk ⟨j, Nat.le_refl _, by omega, e⟩
      have h64 : 64 ≤ dkey d j := Nat.le_add_right _ _
      have hin : j + 1 ≤ 16 → inD d (dkey d j) = true := fun h => by
        simp only [inD, dkey, Bool.and_eq_true]
        exact ⟨Nat.ble_eq_true_of_le (by omega), Nat.ble_eq_true_of_le (by omega)⟩
      have plain : ∀ kd, asCellP kd (some c) False (fun v => bif (keysV v).isEmpty then backC (envP P n gives C) d D r cs j s h fun vs j' s' h' => K (v :: vs) j' s' h' else False) → BackC B n F a w ρ' X d (c :: cs) cf j ρ s K := by
        intro kd hk
        obtain ⟨u, v, e, hv0, hk⟩ := givesP (cl := clOf w) (F := F) (ρ := ρ') _ _ _ hk
        cases e
        obtain ⟨hb, hk⟩ := cond_inv hk
        have hb : keysV v = [] := by simpa using hb
        exact one v j s h ρ (Nat.le_refl _) hi ((hv0 _ hc).noKeys hb) (by rw [hb]; intro k hk; cases hk) (fun _ _ => rfl) (.inl rfl) (.refl _ _ _) hk
      split at hk
      · rename_i es
        obtain ⟨hb, hk⟩ := cond_inv hk
        obtain ⟨xs, own, frz, h1, l, k1, k2, k3⟩ := asRow_ok hi hc hk (dkey d j) h64
        exact one _ (j + 1) _ h1 _ (by omega) k2 k3 (fun k hk => by
          simp only [keysV, List.mem_singleton] at hk
          subst hk; exact hself) (fun k hk => upd_ne ρ l (hother k hk)) (.inr (Nat.le_of_ble_eq_true hb)) (.bind _ l (hin (Nat.le_of_ble_eq_true hb))) k1
      · rename_i t
        have hk2 := cond_inv hk
        clear hk
        obtain ⟨hb, hk⟩ := hk2
        unfold asPtr at hk
        split at hk
        case h_2 => exact hk.elim
        rename_i jj
        split at hk
        case h_2 => exact hk.elim
        rename_i kds0 cs0 hl
        have hsr := hi.hr.sr jj _ hl
        have hblk : cf 0 = .pointer (some ⟨(ρ' jj).blk, 0, none⟩) := by
          generalize cf 0 = c0 at hc
          cases hc; rfl
        obtain ⟨ws, j1, s1, h1, ρ1, q1, q2, q3, q4, q5, q6, q7, q8, q9⟩ := ih (kinds (envP P n gives C).P 9 t) cs0 (fun i => (clOf w (ρ' jj).blk i).getD undef) (j + 1) s (del jj h) _ ρ _ (hi.take hl) (fun i v hv => by
          obtain ⟨c', c1, c2, c3⟩ := hsr i v hv
          simp only [c1, Option.getD_some]; exact c3) hk
        have hne : ∀ k ∈ keysV.keysC ws, k ≠ dkey d j := fun k hk e => by
          obtain ⟨q, e1, e2, e3⟩ := q6 k hk
          have := dkey_inj (e.symm.trans e3)
          omega
        have hoe : ∀ g p, owns (upd ρ1 (dkey d j) (ρ' jj)) (dkey d j) (.cells (kinds (envP P n gives C).P 9 t) ws) g p ↔ owns ρ' jj (.cells kds0 cs0) g p := fun g p => by simp only [owns, upd_same, q4]
        have q2' := q2.bind (X := X) (dkey d j) (.cells (kinds (envP P n gives C).P 9 t) ws) (ρ' jj) h64 (by
            intro i v hv
            rw [upd_same]
            have hi0 : i < cs0.length := by rw [← q4]; exact (List.getElem?_eq_some_iff.1 hv).1
            obtain ⟨c', c1, c2, c3⟩ := hsr i cs0[i] (List.getElem?_eq_getElem hi0)
            have := q5 i v hv
            simp only [c1, Option.getD_some] at this
            exact ⟨c', c1, c2, this.upd fun hm => hne _ (keysC_mem.2 ⟨v, List.mem_of_getElem? hv, hm⟩) rfl⟩)
          (fun g p ho => hi.hr.free jj _ g p hl ((hoe g p).1 ho)) (fun g p ho => .inr ((hoe g p).1 ho)) (fun g p ho => hi.owned g p ⟨jj, _, hl, (hoe g p).1 ho⟩)
          (fun g p hx => ⟨.inl hx, fun ho => (hi.xs g p hx).2 ⟨jj, _, hl, (hoe g p).1 ho⟩⟩)
        have hj16 : j + 1 ≤ 16 := Nat.le_of_ble_eq_true hb
        refine one _ j1 _ h1 _ (by omega) q2' ?_ (fun k hk => ?_) (fun k hk => ?_) (by omega) (q9.trans (.bind _ _ (hin hj16))) q1
        · rw [hblk]
          have := VR.ptr (cl := clOf w) (F := F) (ρ := upd ρ1 (dkey d j) (ρ' jj)) (k := dkey d j) (off := 0)
          rwa [upd_same] at this
        · simp only [keysV, List.mem_singleton] at hk
          subst hk; exact ⟨j, Nat.le_refl _, by omega, rfl⟩
        · rw [upd_ne _ _ (fun e => hk ⟨j, Nat.le_refl _, by omega, e⟩)]
          exact q7 k fun ⟨q, e1, e2, e3⟩ => hk ⟨q, by omega, e2, e3⟩
      · cases hm : isMp c with
        | false =>
          rw [hm] at hk
          simp only [cond_false] at hk
          exact plain _ hk
        | true =>
          rw [hm] at hk
          simp only [cond_true] at hk
          have hk2 := cond_inv hk
          clear hk
          obtain ⟨hb, hk⟩ := hk2
          have hj16 : j + 1 ≤ 16 := Nat.le_of_ble_eq_true hb
          unfold asMapB at hk
          split at hk
          case h_2 => exact hk.elim
          rename_i jj
          split at hk
          case h_2 => exact hk.elim
          rename_i kvs hl
          have hsr := hi.hr.sr jj _ hl
          have hblk : cf 0 = .map (some (ρ' jj).blk) := by
            generalize cf 0 = c0 at hc
            cases hc; rfl
          have hoe : ∀ g p, owns (upd ρ (dkey d j) (ρ' jj)) (dkey d j) (.map kvs) g p ↔ owns ρ' jj (.map kvs) g p := fun g p => by simp only [owns, upd_same]
          have q2' := (hi.take hl).bind (X := X) (dkey d j) (.map kvs) (ρ' jj) h64 (by
              obtain ⟨es, m, h1, h2, h3⟩ := hsr
              simp only [SR, upd_same]
              refine ⟨es, m, h1, h2, fun i p e hp he => ?_⟩
              obtain ⟨e1, e2, e3, e4⟩ := h3 i p e hp he
              exact ⟨e1, e2.noKeys e4, e3, e4⟩)
            (fun g p ho => hi.hr.free jj _ g p hl ((hoe g p).1 ho)) (fun g p ho => .inr ((hoe g p).1 ho)) (fun g p ho => hi.owned g p ⟨jj, _, hl, (hoe g p).1 ho⟩)
            (fun g p hx => ⟨.inl hx, fun ho => (hi.xs g p hx).2 ⟨jj, _, hl, (hoe g p).1 ho⟩⟩)
          refine one _ (j + 1) _ _ _ (by omega) q2' ?_ (fun k hk => ?_) (fun k hk => upd_ne ρ _ (hother k hk)) (.inr hj16) (.bind _ _ (hin hj16)) hk
          · rw [hblk]
            have := VR.mp (cl := clOf w) (F := F) (ρ := upd ρ (dkey d j) (ρ' jj)) (k := dkey d j)
            rwa [upd_same] at this
          · simp only [keysV, List.mem_singleton] at hk
            subst hk; exact hself
      · exact plain kd hk
    · exact hk.elim
end
end Go.Proofs.YtbnpclndiichcaaGreatDoor.Eng
end
section
set_option linter.unusedVariables false
set_option linter.unusedSimpArgs false
namespace Go.Proofs.YtbnpclndiichcaaGreatDoor.Eng
open Go Go.Lib
set_option linter.unusedVariables false
set_option linter.unusedSimpArgs false

section
variable {P : Program} {gives : FuncId → Bool} {C : CL}
variable {B : Base} {n : Nat} {F : Fz} {ρ' : Rho} {a : Act} {w : World}

/-- A slot is put back where it was. -/
theorem RelF.reins {ρ : Rho} {s : S} (h : RelF B n F ρ s a w) (k : Nat) (x : Slot) (hx : SR w F ρ k x)
    (hfree : ∀ g o, owns ρ k x g o → ¬ F g o ∧ w.frozen? ⟨g, o, none⟩ = false ∧ g < w.heap.size)
    (hap : ∀ g o, owns ρ k x g o → ¬ OwnH ρ s.hp g o) (how : ∀ g o, owns ρ k x g o → B.w0.heap.size ≤ g ∨ B.own g o) :
    RelF B n F ρ (s.upd k x) a w := by
  have get : ∀ j y, look j (s.upd k x).hp = some y → (j = k ∧ y = x) ∨ (j ≠ k ∧ look j s.hp = some y) := fun j y hy => by
    simp only [S.upd, look_ins] at hy
    by_cases e : j = k
    · subst e; simp only [if_true] at hy; cases hy; exact .inl ⟨rfl, rfl⟩
    · simp only [e, if_false] at hy; exact .inr ⟨e, hy⟩
  refine ⟨h.size, h.defers, h.tm, ⟨fun j y hy => ?_, fun j y g o hy ho => ?_, fun i j y z g o hy hz hij ho hoz => ?_, h.hr.fin⟩, ⟨h.fr.size, h.fr.same, h.fr.cell, fun j y g o hy ho => ?_, h.fr.fup, h.fr.fnew, h.fr.keep, h.fr.frz⟩⟩
  · rcases get j y hy with ⟨rfl, rfl⟩ | ⟨_, h1⟩
    · exact hx
    · exact h.hr.sr j y h1
  · rcases get j y hy with ⟨rfl, rfl⟩ | ⟨_, h1⟩
    · exact hfree g o ho
    · exact h.hr.free j y g o h1 ho
  · rcases get i y hy with ⟨rfl, rfl⟩ | ⟨_, h1⟩
    · rcases get j z hz with ⟨rfl, rfl⟩ | ⟨_, h2⟩
      · exact hij rfl
      · exact hap g o ho ⟨j, z, h2, hoz⟩
    · rcases get j z hz with ⟨rfl, rfl⟩ | ⟨_, h2⟩
      · exact hap g o hoz ⟨i, y, h1, ho⟩
      · exact h.hr.apart i j y z g o h1 h2 hij ho hoz
  · rcases get j y hy with ⟨rfl, rfl⟩ | ⟨_, h1⟩
    · exact how g o ho
    · exact h.fr.owned j y g o h1 ho

theorem Imp.reins {ρ : Rho} {s : S} {h : List (Nat × Slot)} {X Y : Nat → Nat → Prop} (hi : Imp B n F ρ s a w ρ' h Y) (k : Nat) (x : Slot) (hx : SR w F ρ k x)
    (hfree : ∀ g p, owns ρ k x g p → ¬ F g p ∧ w.frozen? ⟨g, p, none⟩ = false ∧ g < w.heap.size) (hY : ∀ g p, owns ρ k x g p → Y g p)
    (how : ∀ g p, owns ρ k x g p → B.w0.heap.size ≤ g ∨ B.own g p) (hX : ∀ g p, X g p → Y g p ∧ ¬ owns ρ k x g p) :
    Imp B n F ρ (s.upd k x) a w ρ' h X := by
  have own' : ∀ g p, OwnH ρ (s.upd k x).hp g p → owns ρ k x g p ∨ OwnH ρ s.hp g p := fun g p ⟨j, y, hl, ho⟩ => by
    simp only [S.upd, look_ins] at hl
    by_cases e : j = k
    · subst e; simp only [if_true] at hl; cases hl; exact .inl ho
    · simp only [e, if_false] at hl; exact .inr ⟨j, y, hl, ho⟩
  refine ⟨hi.rel.reins k x hx hfree (fun g p ho => (hi.xs g p (hY g p ho)).1) how, hi.hr, fun g p ho => ?_, hi.owned, fun g p hxp => ⟨fun ho => ?_, (hi.xs g p (hX g p hxp).1).2⟩⟩
  · rcases own' g p ho with h1 | h1
    · exact (hi.xs g p (hY g p h1)).2
    · exact hi.apart g p h1
  · rcases own' g p ho with h1 | h1
    · exact (hX g p hxp).2 h1
    · exact (hi.xs g p (hX g p hxp).1).1 h1

theorem fresh1_inD {d j j' k : Nat} (h16 : j' = j ∨ j' ≤ 16) (h : fresh1 d j j' k) : inD d k = true := by
  obtain ⟨q, e1, e2, e3⟩ := h
  subst e3
  simp only [inD, dkey, Bool.and_eq_true]
  exact ⟨Nat.ble_eq_true_of_le (by omega), Nat.ble_eq_true_of_le (by omega)⟩

theorem backH_ok (d m : Nat) (hp0 : List (Nat × Slot)) : ∀ (l : List Nat) (i j : Nat) (s : S) (h : List (Nat × Slot)) (K : Nat → S → List (Nat × Slot) → Prop) (ρ : Rho) (X : Nat → Nat → Prop),
    Imp B n F ρ s a w ρ' h X → (∀ q k, l[q]? = some k → inD d k = false ∧ (i + q < m → (ρ' (i + q)).blk = (ρ k).blk)) → backH (envP P n gives C) d m hp0 i l j s h K →
    ∃ j' s' h' ρ2, K j' s' h' ∧ Imp B n F ρ2 s' a w ρ' h' X ∧ (∀ k, inD d k = false → ρ2 k = ρ k) ∧ SKept (fun k => inD d k = true ∨ k ∈ l) ρ s ρ2 s'
  | [], i, j, s, h, K, ρ, X, hi, hq, hk => ⟨j, s, h, ρ, hk, hi, fun _ _ => rfl, .refl _ _ _⟩
  | k :: r, i, j, s, h, K, ρ, X, hi, hq, hk => by
    have hq' : ∀ ρ2 : Rho, (∀ k, inD d k = false → ρ2 k = ρ k) → ∀ q k', r[q]? = some k' → inD d k' = false ∧ (i + 1 + q < m → (ρ' (i + 1 + q)).blk = (ρ2 k').blk) := fun ρ2 h2 q k' hk' => by
      obtain ⟨h3, h4⟩ := hq (q + 1) k' (by simpa using hk')
      exact ⟨h3, fun h5 => by rw [h2 k' h3, show i + 1 + q = i + (q + 1) by omega]; exact h4 (by omega)⟩
    obtain ⟨hkd, hkb⟩ := hq 0 k rfl
    simp only [backH] at hk
    split at hk
    · rename_i kds cs0 hl0
      have hk2 := cond_inv hk
      clear hk
      obtain ⟨hm, hk⟩ := hk2
      have hm : i < m := Nat.le_of_ble_eq_true hm
      unfold asPtr at hk
      simp only at hk
      split at hk
      case h_2 => exact hk.elim
      rename_i kds1 cs hl
      have hsr := hi.hr.sr i _ hl
      obtain ⟨ws, j1, s1, h1, ρ1, q1, q2, q3, q4, q5, q6, q7, q8, q9⟩ := backC_ok d 100 kds cs (fun i' => (clOf w (ρ' i).blk i').getD undef) j s (del i h) _ ρ _ (hi.take hl) (fun i' v hv => by
        obtain ⟨c', c1, c2, c3⟩ := hsr i' v hv
        simp only [c1, Option.getD_some]; exact c3) hk
      have hρ1 : ∀ k, inD d k = false → ρ1 k = ρ k := fun k hk => q7 k fun hf => by rw [fresh1_inD q8 hf] at hk; cases hk
      have hblk : (ρ1 k).blk = (ρ' i).blk := by rw [hρ1 k hkd]; exact (hkb (by omega)).symm
      have hoe : ∀ g p, owns ρ1 k (.cells kds ws) g p ↔ owns ρ' i (.cells kds1 cs) g p := fun g p => by simp only [owns, q4, hblk]
      have q2' := q2.reins (X := X) k (.cells kds ws) (by
          intro i' v hv
          rw [hblk]
          have hi0 : i' < cs.length := by rw [← q4]; exact (List.getElem?_eq_some_iff.1 hv).1
          obtain ⟨c', c1, c2, c3⟩ := hsr i' cs[i'] (List.getElem?_eq_getElem hi0)
          have := q5 i' v hv
          simp only [c1, Option.getD_some] at this
          exact ⟨c', c1, c2, this⟩)
        (fun g p ho => hi.hr.free i _ g p hl ((hoe g p).1 ho)) (fun g p ho => .inr ((hoe g p).1 ho)) (fun g p ho => hi.owned g p ⟨i, _, hl, (hoe g p).1 ho⟩)
        (fun g p hx => ⟨.inl hx, fun ho => (hi.xs g p hx).2 ⟨i, _, hl, (hoe g p).1 ho⟩⟩)
      obtain ⟨j', s', h', ρ2, p1, p2, p3, p4⟩ := backH_ok d m hp0 r (i + 1) j1 _ h1 K ρ1 X q2' (hq' ρ1 hρ1) q1
      exact ⟨j', s', h', ρ2, p1, p2, fun k hk => (p3 k hk).trans (hρ1 k hk),
        ((q9.weak fun _ h => .inl h).trans (.reins _ (.inr (.head _)))).trans (p4.weak fun _ h => h.imp id (.tail _))⟩
    · obtain ⟨j', s', h', ρ2, p1, p2, p3, p4⟩ := backH_ok d m hp0 r (i + 1) j s h K ρ X hi (hq' ρ fun _ _ => rfl) hk
      exact ⟨j', s', h', ρ2, p1, p2, p3, p4.weak fun _ h => h.imp id (.tail _)⟩

theorem backR_ok (d : Nat) : ∀ (ts : List TypeId) (rs : List V) (cf : Nat → Value) (j : Nat) (s : S) (h : List (Nat × Slot)) (K : List V → S → Prop) (ρ : Rho),
    Imp B n F ρ s a w ρ' h (fun _ _ => False) → (∀ (i : Nat) (v : V), rs[i]? = some v → VR (clOf w) F ρ' v (cf i)) → backR (envP P n gives C) d ts rs j s h K →
    ∃ vs s' ρ2, K vs s' ∧ RelF B n F ρ2 s' a w ∧ vs.length = rs.length ∧ (∀ (i : Nat) (v : V), vs[i]? = some v → VR (clOf w) F ρ2 v (cf i)) ∧ (∀ k, ¬ (∃ q, j ≤ q ∧ k = dkey d q) → ρ2 k = ρ k) ∧ (∀ k ∈ keysV.keysC vs, ∃ q, j ≤ q ∧ k = dkey d q) ∧ SKept (fun k => inD d k = true) ρ s ρ2 s'
  | [], [], cf, j, s, h, K, ρ, hi, hv, hk => ⟨[], s, ρ, hk, hi.rel, rfl, fun i v h => by simp at h, fun _ _ => rfl, fun k hk => by simp [keysV.keysC] at hk, .refl _ _ _⟩
  | [], x :: rs, cf, j, s, h, K, ρ, hi, hv, hk => by simp only [backR] at hk; exact hk.elim
  | t :: r, [], cf, j, s, h, K, ρ, hi, hv, hk => by simp only [backR] at hk; exact hk.elim
  | t :: r, x :: rs, cf, j, s, h, K, ρ, hi, hv, hk => by
    have hx := hv 0 x rfl
    have hvr : ∀ (i : Nat) (v : V), rs[i]? = some v → VR (clOf w) F ρ' v (cf (i + 1)) := fun i v h => hv (i + 1) v (by simpa using h)
    have one : ∀ (v0 : V) (j1 : Nat) (s1 : S) (h1 : List (Nat × Slot)) (ρ1 : Rho), j ≤ j1 → Imp B n F ρ1 s1 a w ρ' h1 (fun _ _ => False) → VR (clOf w) F ρ1 v0 (cf 0) → (∀ k ∈ keysV v0, fresh1 d j j1 k) → (∀ k, ¬ fresh1 d j j1 k → ρ1 k = ρ k) → SKept (fun k => inD d k = true) ρ s ρ1 s1 →
        backR (envP P n gives C) d r rs j1 s1 h1 (fun ws s'' => K (v0 :: ws) s'') → ∃ vs s' ρ2, K vs s' ∧ RelF B n F ρ2 s' a w ∧ vs.length = (x :: rs).length ∧ (∀ (i : Nat) (v : V), vs[i]? = some v → VR (clOf w) F ρ2 v (cf i)) ∧ (∀ k, ¬ (∃ q, j ≤ q ∧ k = dkey d q) → ρ2 k = ρ k) ∧ (∀ k ∈ keysV.keysC vs, ∃ q, j ≤ q ∧ k = dkey d q) ∧ SKept (fun k => inD d k = true) ρ s ρ2 s' := by
      intro v0 j1 s1 h1 ρ1 hj hi1 hv0 hk0 hρ hsk hk
      obtain ⟨vs, s', ρ2, q1, q2, q3, q4, q5, q6, q7⟩ := backR_ok d r rs (fun i => cf (i + 1)) j1 s1 h1 _ ρ1 hi1 hvr hk
      refine ⟨v0 :: vs, s', ρ2, q1, q2, by simp [q3], fun i v hiv => ?_, fun k hkk => ?_, fun k hkk => ?_, hsk.trans q7⟩
      · cases i with
        | zero =>
          simp at hiv
          subst hiv
          refine hv0.same fun k hkk => q5 k fun ⟨q, e1, e3⟩ => ?_
          obtain ⟨p, p1, p2, p3⟩ := hk0 k hkk
          have := dkey_inj (p3.symm.trans e3)
          omega
        | succ i => simp at hiv; exact q4 i v hiv
      · rw [q5 k fun ⟨q, e1, e3⟩ => hkk ⟨q, by omega, e3⟩]
        exact hρ k fun ⟨q, e1, e2, e3⟩ => hkk ⟨q, e1, e3⟩
      · simp only [keysV.keysC, List.mem_append] at hkk
        rcases hkk with hkk | hkk
        · obtain ⟨q, e1, e2, e3⟩ := hk0 k hkk; exact ⟨q, e1, e3⟩
        · obtain ⟨q, e1, e3⟩ := q6 k hkk; exact ⟨q, by omega, e3⟩
    simp only [backR] at hk
    cases hb : aggB (envP P n gives C).P t with
    | true =>
      rw [hb] at hk
      simp only [cond_true] at hk
      split at hk
      case h_2 => exact hk.elim
      rename_i cs
      obtain ⟨arr, harr⟩ : ∃ arr, cf 0 = .agg arr := by
        generalize cf 0 = c0 at hx
        cases hx; exact ⟨_, rfl⟩
      rw [harr] at hx
      cases hx with
      | agg hn hko hcc =>
      obtain ⟨vs, j1, s1, h1, ρ1, q1, q2, q3, q4, q5, q6, q7, q8, q9⟩ := backC_ok d 100 _ cs (fun i => (arr[i]?).getD undef) j s h _ ρ _ hi (fun i v hv => by
        have hi' : i < arr.size := by rw [← hn]; exact (List.getElem?_eq_some_iff.1 hv).1
        rw [Array.getElem?_eq_getElem hi', Option.getD_some]
        exact hcc i v _ hv (Array.getElem?_eq_getElem hi')) hk
      refine one (.agg vs) j1 s1 h1 ρ1 q3 q2 ?_ (by simpa only [keysV] using q6) q7 q9 q1
      rw [harr]
      refine .agg (by rw [q4, hn]) hko fun i v c hv hc => ?_
      have := q5 i v hv
      simp only [hc, Option.getD_some] at this
      exact this
    | false =>
      rw [hb] at hk
      simp only [cond_false] at hk
      split at hk
      case h_2 => exact hk.elim
      rename_i kd hkd
      obtain ⟨vs, j1, s1, h1, ρ1, q1, q2, q3, q4, q5, q6, q7, q8, q9⟩ := backC_ok d 100 [kd] [x] cf j s h _ ρ _ hi (fun i v hv => by
        cases i with
        | zero => simp at hv; subst hv; exact hx
        | succ i => simp at hv) hk
      match vs, q4 with
      | [v0], _ =>
        refine one v0 j1 s1 h1 ρ1 q3 q2 (q5 0 v0 rfl) (fun k hk => q6 k (by simp only [keysV.keysC, List.append_nil]; exact hk)) q7 q9 q1
end
end Go.Proofs.YtbnpclndiichcaaGreatDoor.Eng
end
section
set_option linter.unusedVariables false
set_option linter.unusedSimpArgs false
namespace Go.Proofs.YtbnpclndiichcaaGreatDoor.Eng
open Go Go.Lib
set_option linter.unusedVariables false
set_option linter.unusedSimpArgs false

section
variable {P : Program} {gives : FuncId → Bool} {C : CL}
variable {B : Base} {n : Nat} {F F' : Fz} {ρ ρ' : Rho} {s : S} {a : Act} {w w' : World} {o : Oper} {K : S → Prop} {T : Nat → Prop}

theorem look_delL : ∀ (ks : List Nat) (hp : List (Nat × Slot)) (k : Nat), look k (delL hp ks) = if k ∈ ks then none else look k hp
  | [], hp, k => by simp [delL]
  | j :: r, hp, k => by
    rw [delL, look_delL r, look_del]
    by_cases h : k ∈ r
    · simp [h]
    · by_cases e : k = j
      · subst e; simp
      · simp [h, e]

/-- The caller, as the callee has come back. -/
theorem Imp.start {h h' : List (Nat × Slot)} {ks : List Nat} (hR : RelF B n F ρ s a w) (hn : nodupB ks = true) (he : handH s.hp ks 0 ks = some h) (hb : Back w F (handRho ρ ks) h w' F' ρ' h') :
    Imp B n F' ρ ⟨s.tm, delL s.hp ks⟩ a w' ρ' h' (fun _ _ => False) := by
  obtain ⟨hh, hown⟩ := handH_HR hR.hr hn he
  have own : ∀ g p, OwnH (handRho ρ ks) h g p → ∃ k x, k ∈ ks ∧ look k s.hp = some x ∧ owns ρ k x g p := fun g p ⟨j, y, hj, ho⟩ => by
    obtain ⟨k, x, q1, q2, q3, q4⟩ := hown j y hj
    exact ⟨k, x, List.mem_of_getElem? q1, q2, (q4 g p).1 ho⟩
  have get : ∀ k x, look k (delL s.hp ks) = some x → k ∉ ks ∧ look k s.hp = some x := fun k x hl => by
    rw [look_delL] at hl
    split at hl
    · cases hl
    · exact ⟨by assumption, hl⟩
  have hno : ∀ k x g p, look k (delL s.hp ks) = some x → owns ρ k x g p → ¬ OwnH (handRho ρ ks) h g p := fun k x g p hl ho hO => by
    obtain ⟨h1, h2⟩ := get k x hl
    obtain ⟨k', x', q1, q2, q3⟩ := own g p hO
    exact hR.hr.apart k k' x x' g p h2 q2 (fun e => h1 (e ▸ q1)) ho q3
  have hFc : ∀ g p, F g p → clOf w' g p = clOf w g p := fun g p hf => by
    refine hb.cell g p (hR.hr.fin g p hf) fun hO => ?_
    obtain ⟨k', x', q1, q2, q3⟩ := own g p hO
    exact (hR.hr.free k' x' g p q2 q3).1 hf
  have hbase : ∀ g p, OwnH (handRho ρ ks) h g p → B.w0.heap.size ≤ g ∨ B.own g p := fun g p hO => by
    obtain ⟨k', x', q1, q2, q3⟩ := own g p hO
    exact hR.fr.owned k' x' g p q2 q3
  refine ⟨⟨hR.size, hR.defers, fun t v hv => ?_, ⟨fun k x hl => ?_, fun k x g p hl ho => ?_, fun i j x y g p hi hj hij ho hoj => ?_, hb.hr.fin⟩,
    ⟨Nat.le_trans hR.fr.size hb.size, fun g hlt hno' => ?_, fun g p hlt hno' => ?_, fun k x g p hl ho => ?_, fun g p hf => hb.fup g p (hR.fr.fup g p hf), fun g p hf hlt => ?_, hR.fr.keep, ⟨hR.fr.frz.1.trans hb.frz.1, fun g p hlt => ?_⟩⟩⟩,
    hb.hr, fun g p ⟨k, x, hl, ho⟩ hO => ?_, fun g p hO => ?_, fun g p hx => hx.elim⟩
  · exact (hR.tm t v hv).mono hb.fup (fun g p c hf hc => by rw [hFc g p hf]; exact hc) (fun _ _ => agree.refl _)
  · obtain ⟨h1, h2⟩ := get k x hl
    refine (hR.hr.sr k x h2).other (fun g p hgp => ?_) (fun g hgp => ?_) hb.fup (fun _ => agree.refl _) rfl
    · rcases hgp with hf | ho
      · exact hFc g p hf
      · exact hb.cell g p (hR.hr.free k x g p h2 ho).2.2 (hno k x g p hl ho)
    · exact hb.same g (hR.hr.free k x g 0 h2 (hgp 0)).2.2 fun p => hno k x g p hl (hgp p)
  · obtain ⟨h1, h2⟩ := get k x hl
    obtain ⟨b1, b2, b3⟩ := hR.hr.free k x g p h2 ho
    refine ⟨fun hf => ?_, by rw [hb.frz.2 g p b3]; exact b2, Nat.lt_of_lt_of_le b3 hb.size⟩
    rcases hb.fnew g p hf b3 with hf | hO
    · exact b1 hf
    · exact hno k x g p hl ho hO
  · exact hR.hr.apart i j x y g p (get i x hi).2 (get j y hj).2 hij ho hoj
  · rw [hb.same g (Nat.lt_of_lt_of_le hlt hR.fr.size) fun p hO => ?_]
    · exact hR.fr.same g hlt hno'
    · rcases hbase g p hO with h1 | h1
      · omega
      · exact hno' p h1
  · rw [hb.cell g p (Nat.lt_of_lt_of_le hlt hR.fr.size) fun hO => ?_]
    · exact hR.fr.cell g p hlt hno'
    · rcases hbase g p hO with h1 | h1
      · omega
      · exact hno' h1
  · exact hR.fr.owned k x g p (get k x hl).2 ho
  · rcases hb.fnew g p hf (Nat.lt_of_lt_of_le hlt hR.fr.size) with hf | hO
    · exact hR.fr.fnew g p hf hlt
    · rcases hbase g p hO with h1 | h1
      · omega
      · exact .inr h1
  · exact (hb.frz.2 g p (Nat.lt_of_lt_of_le hlt hR.fr.size)).trans (hR.fr.frz.2 g p hlt)
  · rcases hb.owned g p hO with h1 | h1
    · have := (hR.hr.free k x g p (get k x hl).2 ho).2.2; omega
    · exact hno k x g p hl ho h1
  · rcases hb.owned g p hO with h1 | h1
    · exact .inl (Nat.le_trans hR.fr.size h1)
    · exact hbase g p h1

/-- A list of results, as one value. -/
theorem one_ok {cl : Cl} {rs : List V} {c : Value} (h : VR cl F ρ (one rs) c) : ∃ cf : Nat → Value, (∀ (i : Nat) (v : V), rs[i]? = some v → VR cl F ρ v (cf i)) ∧
    ∀ (F2 : Fz) (ρ2 : Rho) (vs : List V), vs.length = rs.length → (∀ (i : Nat) (v : V), vs[i]? = some v → VR cl F2 ρ2 v (cf i)) → VR cl F2 ρ2 (one vs) c := by
  by_cases h1 : ∃ r, rs = [r]
  · obtain ⟨r, rfl⟩ := h1
    refine ⟨fun _ => c, fun i v hv => ?_, fun F2 ρ2 vs hl hvs => ?_⟩
    · cases i with
      | zero => simp at hv; subst hv; exact h
      | succ i => simp at hv
    · match vs, hl with
      | [v], _ => exact hvs 0 v rfl
  · have ho : ∀ l : List V, l.length = rs.length → one l = .tup l := fun l hl => by
      match l, hl with
      | [], _ => rfl
      | [v], hl =>
        match rs, hl with
        | [r], _ => exact absurd ⟨r, rfl⟩ h1
      | v :: u :: r, _ => rfl
    rw [ho rs rfl] at h
    cases h with
    | @tup _ vs hn hc =>
      refine ⟨fun i => (vs[i]?).getD undef, fun i v hv => ?_, fun F2 ρ2 us hl hus => ?_⟩
      · have hi : i < vs.size := by rw [← hn]; exact (List.getElem?_eq_some_iff.1 hv).1
        simp only [Array.getElem?_eq_getElem hi, Option.getD_some]
        exact hc i v _ hv (Array.getElem?_eq_getElem hi)
      · rw [ho us hl]
        refine .tup (by rw [hl, hn]) fun i u c hu hc' => ?_
        have := hus i u hu
        simp only [hc', Option.getD_some] at this
        exact this

/-- A call, once its arguments are handed over. -/
theorem call_core {g : FuncId} {fn : Func} {vs : Array Value} {as : List V} {h : List (Nat × Slot)} {ks : List Nat} {d : Nat} (hR : RelF B n F ρ s a w) (hn : nodupB ks = true) (he : handH s.hp ks 0 ks = some h)
    (hl : as.length = vs.size) (has : ∀ (i : Nat) (v : V) (c : Value), as[i]? = some v → vs[i]? = some c → VR (clOf w) F (handRho ρ ks) v c)
    (hrun : (execOp a.eval o).run P w = .ok (.enter g vs) w) (hd : o.dst = some d) (hdn : d < n) (hks : ks.any (inD d) = false) (h64 : ks.length ≤ 64)
    (hk : SemAt P B g as h fun rs h' => backH (envP P n gives C) d (fixedN h) s.hp 0 ks 0 ⟨s.tm, delL s.hp ks⟩ h' fun j s2 h2 => backR (envP P n gives C) d fn.resultTypes.toList rs j s2 h2 fun vs s3 => K (s3.put d (one vs)))
    (hT : ∀ k ∈ ks, T k) (hTd : ∀ k, inD d k = true → T k) : OpOk P B n F ρ s T o a w K := by
  intro next Q hnx
  simp only [Oper.wp, hrun, Oper.upon]
  obtain ⟨hh, hown⟩ := handH_HR hR.hr hn he
  refine Calls.mono (hk w F (handRho ρ ks) vs ⟨hR.fr.size, hR.fr.same, hR.fr.fup⟩ hl has hh) fun e w' hr => ?_
  obtain ⟨c, rs, h', F', ρ', rfl, hv, hb, hk⟩ := hr
  simp only
  have hi := Imp.start hR hn he hb
  have hinD : ∀ k ∈ ks, inD d k = false := fun k hk => by
    cases hb : inD d k
    · rfl
    · have := List.any_eq_false.1 hks k hk; exact absurd hb (by simpa using this)
  obtain ⟨j2, s2, h2, ρ2, p1, p2, p3, p4⟩ := backH_ok d (fixedN h) s.hp ks 0 0 _ h' _ ρ _ hi (fun q k hq => ⟨hinD k (List.mem_of_getElem? hq), fun hm => by
    have hq64 : q < 64 := Nat.lt_of_lt_of_le (List.getElem?_eq_some_iff.1 hq).1 h64
    rw [Nat.zero_add] at hm ⊢
    rw [hb.keep q hq64 hm, handRho_get hq]⟩) hk
  obtain ⟨cf, c1, c2⟩ := one_ok hv
  obtain ⟨us, s3, ρ3, q1, q2, q3, q4, q5, q6, q7⟩ := backR_ok d _ rs cf j2 s2 h2 _ ρ2 p2 c1 p1
  have hR3 := q2.put hdn (c2 F' ρ3 us q3 q4)
  rw [hd]
  refine hnx _ F' ρ3 _ w' hR3 (Kept.put ⟨hb.fup, hb.size, fun g p hlt hno => hb.cell g p hlt fun ⟨j, y, hj, ho⟩ => ?_, fun k x g p hnT hl ho => .inr ?_⟩ d _) q1
  · obtain ⟨k, x, r1, r2, r3, r4⟩ := hown j y hj
    exact hno k x (hT k (List.mem_of_getElem? r1)) r2 ((r4 g p).1 ho)
  · have hkn : k ∉ ks := fun hm => hnT (hT k hm)
    have hkd : ¬ inD d k = true := fun hm => hnT (hTd k hm)
    have hl0 : look k (delL s.hp ks) = some x := by rw [look_delL, if_neg hkn]; exact hl
    obtain ⟨x2, e1, e2⟩ := p4 k x (fun hh => hh.elim hkd hkn) hl0
    obtain ⟨x3, f1, f2⟩ := q7 k x2 hkd e1
    exact ⟨x3, f1, f2 g p (e2 g p ho)⟩
end
end Go.Proofs.YtbnpclndiichcaaGreatDoor.Eng
end
