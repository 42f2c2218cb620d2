/- An interpreter of the model's code over values without addresses, and its proof of soundness. -/
import Derived.Test.YtbnpclndiichcaaGreatDoorE2
import Derived.ChangeArms
import Derived.DataReads
import Derived.OpenShut
import Derived.WideShapes
import Derived.JoinedOf
section
set_option linter.unusedVariables false
set_option linter.unusedSimpArgs false
namespace Go.Proofs.YtbnpclndiichcaaGreatDoor.Eng
open Go Go.Lib
set_option linter.unusedVariables false
set_option linter.unusedSimpArgs false

inductive AK where
  | int (k : IntKind) | bool | str | sl (e : AK) | st (fs : AK) | nil | cons (a r : AK)
def AK.T : AK → Type
  | .int _ => Int
  | .bool => Bool
  | .str => ByteArray
  | .sl e => List e.T
  | .st fs => fs.T
  | .nil => Unit
  | .cons a r => a.T × r.T
/-- How many cells. -/
def AK.w : AK → Nat
  | .st fs => fs.w
  | .nil => 0
  | .cons a r => a.w + r.w
  | _ => 1
def AK.isV : AK → Bool
  | .nil => false
  | .cons _ _ => false
  | _ => true
def AK.wrap : AK → List V → V
  | .st _, cs => .agg cs
  | _, cs => cs.headD .bad
def AK.cs : (k : AK) → k.T → List V
  | .int k, (n : Int) => [.c (.int k n)]
  | .bool, (b : Bool) => [.c (.bool b)]
  | .str, (s : ByteArray) => [.c (.string s)]
  | .sl e, (xs : List e.T) => [.sl e.w false (xs.map fun x => e.wrap (AK.cs e x))]
  | .st fs, (x : fs.T) => AK.cs fs x
  | .nil, _ => []
  | .cons a r, (x : a.T × r.T) => AK.cs a x.1 ++ AK.cs r x.2
def AK.good : (k : AK) → k.T → Prop
  | .int k, (n : Int) => (Lit.int k n).wf = true
  | .bool, _ => True
  | .str, (s : ByteArray) => s.size ≤ 9223372036854775807
  | .sl e, (xs : List e.T) => xs.length ≤ 9223372036854775807 ∧ ∀ x ∈ xs, AK.good e x
  | .st fs, (x : fs.T) => AK.good fs x
  | .nil, _ => True
  | .cons a r, (x : a.T × r.T) => AK.good a x.1 ∧ AK.good r x.2
/-- The forms of an argument. -/
def AK.pl : AK → PL → PL
  | .int k, r => .cons (.int k) r
  | .bool, r => .cons .bool r
  | .str, r => .cons .str r
  | .sl e, r => .cons (.slN e.w) r
  | .st fs, r => fs.pl r
  | .nil, r => r
  | .cons a b, r => a.pl (b.pl r)
def AK.D : (k : AK) → (r : PL) → k.T → r.T → (k.pl r).T
  | .int _, r, (x : Int), (y : r.T) => (x, y)
  | .bool, r, (x : Bool), (y : r.T) => (x, y)
  | .str, r, (x : ByteArray), (y : r.T) => (x, y)
  | .sl e, r, (xs : List e.T), (y : r.T) => (xs.map fun x => e.wrap (AK.cs e x), y)
  | .st fs, r, (x : fs.T), (y : r.T) => AK.D fs r x y
  | .nil, r, _, (y : r.T) => y
  | .cons a b, r, (x : a.T × b.T), (y : r.T) => AK.D a (b.pl r) x.1 (AK.D b r x.2 y)
def AK.pv : AK → PV
  | .int k => .int k
  | .bool => .bool
  | .str => .str
  | .sl e => .slN e.w
  | .st fs => .agg (fs.pl .nil)
  | _ => .bad
def AK.DV : (k : AK) → k.T → k.pv.T
  | .int _, (x : Int) => x
  | .bool, (x : Bool) => x
  | .str, (x : ByteArray) => x
  | .sl e, (xs : List e.T) => xs.map fun x => e.wrap (AK.cs e x)
  | .st fs, (x : fs.T) => AK.D fs .nil x ()
  | .nil, _ => ()
  | .cons _ _, _ => ()
theorem AK.enc_D : ∀ (k : AK) (r : PL) (x : k.T) (y : r.T), PL.enc (k.pl r) (k.D r x y) = k.cs x ++ PL.enc r y
  | .int _, r, x, y => rfl
  | .bool, r, x, y => rfl
  | .str, r, x, y => rfl
  | .sl e, r, x, y => rfl
  | .st fs, r, x, y => AK.enc_D fs r x y
  | .nil, r, x, y => rfl
  | .cons a b, r, x, y => by
    show PL.enc (a.pl (b.pl r)) (AK.D a (b.pl r) x.1 (AK.D b r x.2 y)) = (AK.cs a x.1 ++ AK.cs b x.2) ++ PL.enc r y
    rw [AK.enc_D a, AK.enc_D b, List.append_assoc]
theorem AK.enc_DV : ∀ (k : AK) (x : k.T), k.isV = true → k.pv.enc (k.DV x) = k.wrap (k.cs x)
  | .int _, x, _ => rfl
  | .bool, x, _ => rfl
  | .str, x, _ => rfl
  | .sl e, x, _ => rfl
  | .st fs, x, _ => by
    exact congrArg V.agg ((AK.enc_D fs .nil x ()).trans (List.append_nil _))
  | .nil, x, h => by cases h
  | .cons _ _, x, h => by cases h
theorem AK.cs_len : ∀ (k : AK) (x : k.T), (k.cs x).length = k.w
  | .int _, x => rfl
  | .bool, x => rfl
  | .str, x => rfl
  | .sl e, x => rfl
  | .st fs, x => AK.cs_len fs x
  | .nil, x => rfl
  | .cons a b, x => by
    show (AK.cs a x.1 ++ AK.cs b x.2).length = a.w + b.w
    rw [List.length_append, AK.cs_len a, AK.cs_len b]
theorem flatL_append : ∀ (a b : List V), flat.flatL a = true → flat.flatL b = true → flat.flatL (a ++ b) = true
  | [], b, _, h => h
  | x :: a, b, h, k => by
    simp only [flat.flatL, List.cons_append, Bool.and_eq_true] at h ⊢
    exact ⟨h.1, flatL_append a b h.2 k⟩
theorem AK.cs_flat : ∀ (k : AK) (x : k.T), flat.flatL (k.cs x) = true
  | .int _, x => rfl
  | .bool, x => rfl
  | .str, x => rfl
  | .sl e, x => rfl
  | .st fs, x => AK.cs_flat fs x
  | .nil, x => rfl
  | .cons a b, x => flatL_append _ _ (AK.cs_flat a x.1) (AK.cs_flat b x.2)
theorem AK.wrap_cells (k : AK) (x : k.T) (h : k.isV = true) : (k.wrap (k.cs x)).cells = k.cs x ∧ flat (k.wrap (k.cs x)) = true := by
  cases k with
  | st fs => exact ⟨rfl, AK.cs_flat fs x⟩
  | nil => cases h
  | cons a b => cases h
  | _ => exact ⟨rfl, rfl⟩
/-- A kind is that of a type. -/
def AK.fit (P : Program) : AK → TypeId → List (TypeId × Nat) → Nat → Bool
  | .int k, t, _, _ => (match P.underlying t with
    | some (.int k') => decide (k' = k)
    | _ => false)
  | .bool, t, _, _ => (match P.underlying t with
    | some .bool => true
    | _ => false)
  | .str, t, _, _ => (match P.underlying t with
    | some .string => true
    | _ => false)
  | .sl e, t, _, _ => (match P.underlying t with
    | some (.slice u) => e.isV && Nat.beq (P.cellsOf u) e.w && Nat.blt 0 e.w && AK.fit P e u [] 0
    | _ => false)
  | .st fs, t, _, _ => (match P.underlying t with
    | some (.struct l) => !fs.isV && Nat.beq (P.cellsOf t) fs.w && AK.fit P fs 0 (l.toList.map fun f => (f.type, f.offset)) 0
    | some (.array n e) => !fs.isV && Nat.beq (P.cellsOf t) fs.w && AK.fit P fs 0 ((List.range n).map fun i => (e, i * P.cellsOf e)) 0
    | _ => false)
  | .nil, _, l, _ => l.isEmpty
  | .cons a r, _, l, off => (match l with
    | [] => false
    | f :: l => a.isV && !r.isV && Nat.beq f.2 off && Nat.beq (P.cellsOf f.1) a.w && AK.fit P a f.1 [] 0 && AK.fit P r 0 l (off + a.w))

section
variable {P : Program} {W : World} {H : Type} {enc : TypeId × Value → H} {held : Bool} {ρ : Rho}
theorem Args.append {cl : Cl} {F : Fz} : ∀ {a b : List V} {c d : List Value}, Args cl F ρ a c → Args cl F ρ b d → Args cl F ρ (a ++ b) (c ++ d)
  | [], b, [], d, _, h => h
  | x :: a, b, y :: c, d, h, k => ⟨h.1, Args.append h.2 k⟩
  | [], b, _ :: _, d, h, _ => h.elim
  | _ :: _, b, [], d, h, _ => h.elim
theorem cell_lt {a : Addr} {v : Value} (h : W.cell? a = some v) : a.block < W.heap.size ∧ a.spot = none := by
  unfold World.cell? at h
  split at h
  · rename_i c _ _ hc
    split at h
    · cases h
    · rename_i hs
      refine ⟨(Array.getElem?_eq_some_iff.1 hc).1, by simpa using hs⟩
  · cases h
theorem addr_eq {a : Addr} (h : a.spot = none) (n : Nat) : a.add n = ⟨a.block, a.off + n, none⟩ := by
  unfold Addr.add
  split
  · rename_i e; subst e
    cases a; simp at h; subst h; rfl
  · rfl
theorem AK.openK : ∀ (k : AK),
    (k.isV = true → ∀ (t : TypeId) (fuel : Nat) (cs : List Value) (r : DataW H × List MemPlace), k.fit P t [] 0 = true → DataW.trod enc P W 0 (fun _ => true) held fuel t cs = some r →
      ∃ x : k.T, k.good x ∧ Args (clOf W) (frz0 W) ρ (k.cs x) cs ∧ cs.all okC = true) ∧
    (k.isV = false → ∀ (l : List (TypeId × Nat)) (off : Nat) (cs : List Value), k.fit P 0 l off = true → off + k.w = cs.length →
      (∀ (i : Nat) (f : TypeId × Nat), l[i]? = some f → ∃ (fuel : Nat) (r : DataW H × List MemPlace), DataW.trod enc P W 0 (fun _ => true) held fuel f.1 ((cs.drop f.2).take (P.cellsOf f.1)) = some r) →
      ∃ x : k.T, k.good x ∧ Args (clOf W) (frz0 W) ρ (k.cs x) (cs.drop off) ∧ (cs.drop off).all okC = true) := by
  intro k
  induction k with
  | int k =>
    refine ⟨fun _ t fuel cs r hf h => ?_, fun h => by cases h⟩
    simp only [AK.fit] at hf
    split at hf
    · rename_i k' hu
      obtain rfl : k' = k := of_decide_eq_true hf
      obtain ⟨n, rfl, rfl, hw⟩ := DataW.trod_int hu h
      exact ⟨n, hw, ⟨.c rfl, trivial⟩, rfl⟩
    · cases hf
  | bool =>
    refine ⟨fun _ t fuel cs r hf h => ?_, fun h => by cases h⟩
    simp only [AK.fit] at hf
    split at hf
    · rename_i hu
      obtain ⟨n, rfl, rfl⟩ := DataW.trod_bool hu h
      exact ⟨n, trivial, ⟨.c rfl, trivial⟩, rfl⟩
    · cases hf
  | str =>
    refine ⟨fun _ t fuel cs r hf h => ?_, fun h => by cases h⟩
    simp only [AK.fit] at hf
    split at hf
    · rename_i hu
      obtain ⟨n, rfl, rfl, hs⟩ := DataW.trod_string hu h
      exact ⟨n, (by simpa [maxLen] using hs : n.size ≤ 9223372036854775807), ⟨.c rfl, trivial⟩, rfl⟩
    · cases hf
  | sl e ih =>
    refine ⟨fun _ t fuel cs r hf h => ?_, fun h => by cases h⟩
    simp only [AK.fit] at hf
    split at hf
    rotate_left
    · cases hf
    rename_i u hu
    simp only [Bool.and_eq_true, Nat.beq_eq] at hf
    obtain ⟨⟨⟨hv, hc⟩, hw⟩, hfe⟩ := hf
    have hw : 0 < e.w := by simpa [Nat.blt_eq] using hw
    rcases DataW.trod_slice hu h with ⟨rfl, _⟩ | ⟨a, len, cap, elems, rest, n, _, rfl, _, _, hl, hm, hlen, hE, hR, _⟩
    · refine ⟨([] : List e.T), ⟨by simp, fun x hx => by cases hx⟩, ⟨?_, trivial⟩, rfl⟩
      exact .sl (g := 0) (p := 0) (fun _ _ => default) rfl (by simp) (fun h => by cases h) (.inl rfl) (fun i x h => by simp at h) (fun i x j h => by simp at h) (fun i x j y h => by simp at h)
    · have hm2 : cap ≤ 9223372036854775807 := by simpa [maxLen] using hm
      have key : ∀ m, m ≤ len → ∃ xs : List e.T, xs.length = m ∧ (∀ x ∈ xs, e.good x) ∧ ∀ (j : Nat) (x : e.T), xs[j]? = some x →
          ∃ c, W.cells? 0 (a.add (j * e.w)) e.w = some c ∧ Args (clOf W) (frz0 W) ρ (e.cs x) c ∧ c.all okC = true := by
        intro m
        induction m with
        | zero => exact fun _ => ⟨[], rfl, by simp, fun j x h => by simp at h⟩
        | succ m ihm =>
          intro hm'
          obtain ⟨xs, hx, hg, hr⟩ := ihm (by omega)
          have h1 := hE m (by omega)
          rw [List.getElem?_eq_getElem (by omega), Option.bind_eq_some_iff] at h1
          obtain ⟨c, hcc, hy⟩ := h1
          obtain ⟨x, hgx, hax, hkx⟩ := ih.1 hv u n c _ hfe hy
          refine ⟨xs ++ [x], by simp [hx], fun y hy => ?_, fun j y hj => ?_⟩
          · rcases List.mem_append.1 hy with hy | hy
            · exact hg y hy
            · simp at hy; subst hy; exact hgx
          · by_cases hjm : j < m
            · rw [List.getElem?_append_left (by omega)] at hj
              exact hr j y hj
            · have hjl : j < (xs ++ [x]).length := (List.getElem?_eq_some_iff.1 hj).1
              have hjm2 : j = m := by rw [List.length_append, hx] at hjl; simp at hjl; omega
              subst hjm2
              have hj2 : (xs ++ [x])[j]? = some x := by rw [← hx]; exact List.getElem?_concat_length
              obtain rfl : x = y := Option.some.inj (hj2.symm.trans hj)
              rw [← hc]
              exact ⟨c, hcc, hax, hkx⟩
      obtain ⟨xs, hx, hg, hr⟩ := key len (Nat.le_refl _)
      have hspot : cap = 0 ∨ a.spot = none := by
        by_cases h0 : cap = 0
        · exact .inl h0
        refine .inr ?_
        have : ∃ c, W.cells? 0 a (P.cellsOf u) = some c := by
          by_cases hl0 : 0 < len
          · have := hE 0 hl0
            rw [List.getElem?_eq_getElem (by omega), Option.bind_eq_some_iff] at this
            obtain ⟨c, hcc, _⟩ := this
            exact ⟨c, by simpa [Addr.add] using hcc⟩
          · obtain ⟨hr1, hr2⟩ := hR rfl
            have := hr2 0 (by omega)
            rw [List.getElem?_eq_getElem (by omega), Option.bind_eq_some_iff] at this
            obtain ⟨c, hcc, _⟩ := this
            have e0 : len = 0 := by omega
            subst e0
            exact ⟨c, by simpa [Addr.add] using hcc⟩
        obtain ⟨c, hcc⟩ := this
        obtain ⟨_, h2, h3⟩ := World.cells?_some hcc
        have := h3 0 (by omega)
        rw [List.getElem?_eq_getElem (by omega)] at this
        have := (cell_lt this).2
        simpa [Addr.add] using this
      have cell : ∀ (i : Nat) (x : e.T), xs[i]? = some x → ∀ j, j < e.w → ∃ c, W.cell? ⟨a.block, a.off + i * e.w + j, none⟩ = some c ∧ okC c = true ∧ ∀ y, (e.cs x)[j]? = some y → VR (clOf W) (frz0 W) ρ y c := by
        intro i x hi j hj
        obtain ⟨c, h1, h2, h3⟩ := hr i x hi
        obtain ⟨_, h5, h6⟩ := World.cells?_some h1
        have h7 := h6 j hj
        rw [List.getElem?_eq_getElem (by omega)] at h7
        have hil : i < xs.length := (List.getElem?_eq_some_iff.1 hi).1
        have hs : a.spot = none := hspot.resolve_left (by omega)
        have e1 : (a.add (i * e.w)).add j = ⟨a.block, a.off + i * e.w + j, none⟩ := by
          rw [addr_eq hs, addr_eq rfl]
        rw [e1] at h7
        refine ⟨_, h7, List.all_eq_true.1 h3 _ (List.getElem_mem _), fun y hy => h2.at.2 j y _ hy (List.getElem?_eq_getElem (by omega))⟩
      refine ⟨xs, ⟨by omega, hg⟩, ⟨?_, trivial⟩, rfl⟩
      refine .sl (g := a.block) (p := a.off) (fun i j => (W.cell? ⟨a.block, a.off + i * e.w + j, none⟩).getD default) (by simp [hx]) hl (fun h => by cases h) ?_ (fun i v hi => ?_) (fun i v j hi hj => ?_) (fun i v j y hi hy => ?_)
      · rcases hspot with h | h
        · exact .inl h
        · refine .inr ?_
          cases a; simp at h; subst h; rfl
      · rw [List.getElem?_map, Option.map_eq_some_iff] at hi
        obtain ⟨x, hi, rfl⟩ := hi
        obtain ⟨h1, h2⟩ := AK.wrap_cells e x hv
        exact ⟨by rw [h1, AK.cs_len], h2⟩
      · rw [List.getElem?_map, Option.map_eq_some_iff] at hi
        obtain ⟨x, hi, rfl⟩ := hi
        obtain ⟨c, h1, h2, h3⟩ := cell i x hi j hj
        refine ⟨(cell_lt h1).1, ?_, ?_⟩
        · show W.cell? _ = _
          rw [h1]; rfl
        · rw [h1]; exact h2
      · rw [List.getElem?_map, Option.map_eq_some_iff] at hi
        obtain ⟨x, hi, rfl⟩ := hi
        obtain ⟨h1, h2⟩ := AK.wrap_cells e x hv
        rw [h1] at hy
        have hj : j < e.w := by rw [← AK.cs_len e x]; exact (List.getElem?_eq_some_iff.1 hy).1
        obtain ⟨c, h3, h4, h5⟩ := cell i x hi j hj
        show VR _ _ _ y ((W.cell? _).getD default)
        rw [h3]; exact h5 y hy
  | st fs ih =>
    refine ⟨fun _ t fuel cs r hf h => ?_, fun h => by cases h⟩
    simp only [AK.fit] at hf
    split at hf
    · rename_i l hu
      simp only [Bool.and_eq_true, Nat.beq_eq, Bool.not_eq_true'] at hf
      obtain ⟨⟨hv, hc⟩, hfe⟩ := hf
      obtain ⟨ys, m, _, _, hlen, hyl, hg⟩ := DataW.trod_struct hu h
      obtain ⟨x, h1, h2, h3⟩ := ih.2 hv _ 0 cs hfe (by omega) (fun i f hi => by
        rw [List.getElem?_map, Option.map_eq_some_iff] at hi
        obtain ⟨g, hi, rfl⟩ := hi
        have hi' : l[i]? = some g := by simpa using hi
        have := hg i g hi'
        have hlt : i < l.size := (Array.getElem?_eq_some_iff.1 hi').1
        rw [List.getElem?_eq_getElem (by omega)] at this
        exact ⟨_, _, this⟩)
      exact ⟨x, h1, (by rw [List.drop_zero] at h2; exact h2), (by rw [List.drop_zero] at h3; exact h3)⟩
    · rename_i n e hu
      simp only [Bool.and_eq_true, Nat.beq_eq, Bool.not_eq_true'] at hf
      obtain ⟨⟨hv, hc⟩, hfe⟩ := hf
      obtain ⟨ys, m, _, _, hlen, hyl, hg⟩ := DataW.trod_array hu h
      obtain ⟨x, h1, h2, h3⟩ := ih.2 hv _ 0 cs hfe (by omega) (fun i f hi => by
        rw [List.getElem?_map, Option.map_eq_some_iff] at hi
        obtain ⟨g, hi, rfl⟩ := hi
        have hi' := List.getElem?_eq_some_iff.1 hi
        simp only [List.length_range, List.getElem_range] at hi'
        obtain ⟨hlt, rfl⟩ := hi'
        have := hg i hlt
        rw [List.getElem?_eq_getElem (by omega)] at this
        exact ⟨_, _, this⟩)
      exact ⟨x, h1, (by rw [List.drop_zero] at h2; exact h2), (by rw [List.drop_zero] at h3; exact h3)⟩
    · cases hf
  | nil =>
    refine ⟨fun h => (by cases h), fun _ l off cs hf hl h => ⟨(), trivial, ?_⟩⟩
    have : off = cs.length := by simpa [AK.w] using hl
    rw [this, List.drop_length]; exact ⟨trivial, rfl⟩
  | cons a r iha ihr =>
    refine ⟨fun h => (by cases h), fun _ l off cs hf hl h => ?_⟩
    simp only [AK.fit] at hf
    cases l with
    | nil => cases hf
    | cons f l =>
      simp only [Bool.and_eq_true, Nat.beq_eq, Bool.not_eq_true'] at hf
      obtain ⟨⟨⟨⟨⟨hva, hvr⟩, ho⟩, hc⟩, hfa⟩, hfr⟩ := hf
      have hl' : off + (a.w + r.w) = cs.length := hl
      obtain ⟨fuel, q, h0⟩ := h 0 f rfl
      rw [ho, hc] at h0
      obtain ⟨x, hx1, hx2, hx3⟩ := iha.1 hva _ _ _ _ hfa h0
      obtain ⟨y, hy1, hy2, hy3⟩ := ihr.2 hvr l (off + a.w) cs hfr (by omega) (fun i f hi => h (i + 1) f (by simpa using hi))
      have e : cs.drop off = (cs.drop off).take a.w ++ cs.drop (off + a.w) := by
        rw [← List.drop_drop, List.take_append_drop]
      refine ⟨(x, y), ⟨hx1, hy1⟩, ?_, ?_⟩
      · rw [e]; exact Args.append hx2 hy2
      · rw [e, List.all_append, hx3, hy3]; rfl
/-- An argument that came in. -/
theorem AK.open (k : AK) {base : Nat} {t : TypeId} {v : Value} (hv : k.isV = true) (hf : k.fit P t [] 0 = true) (hk : Value.okWide P W .any base t v) (h : ∃ fuel d, DataW.trod enc P W 0 (fun _ => true) held fuel t v.cells.toList = some d) :
    ∃ x : k.T, k.good x ∧ VR (clOf W) (frz0 W) ρ (k.pv.enc (k.DV x)) v := by
  obtain ⟨fuel, d, h⟩ := h
  obtain ⟨x, h1, h2, h3⟩ := (AK.openK k).1 hv t fuel _ d hf h
  refine ⟨x, h1, ?_⟩
  rw [AK.enc_DV k x hv]
  cases k with
  | st fs =>
    simp only [AK.fit] at hf
    have : ∃ cs, v = .agg cs := by
      unfold Value.okWide at hk
      split at hf
      · rename_i l hu; rw [hu] at hk; obtain ⟨cs, rfl, _⟩ := hk; exact ⟨cs, rfl⟩
      · rename_i n e hu; rw [hu] at hk; obtain ⟨cs, rfl, _⟩ := hk; exact ⟨cs, rfl⟩
      · cases hf
    obtain ⟨cs, rfl⟩ := this
    exact vr_agg h2 h3
  | nil => cases hv
  | cons a r => cases hv
  | int k =>
    simp only [AK.fit] at hf
    split at hf
    · rename_i k' hu
      obtain ⟨n, rfl⟩ := WideShapes.okWide_int hu hk
      exact h2.1
    · cases hf
  | bool =>
    simp only [AK.fit] at hf
    split at hf
    · rename_i hu
      obtain ⟨n, rfl⟩ := WideShapes.okWide_bool hu hk
      exact h2.1
    · cases hf
  | str =>
    simp only [AK.fit] at hf
    split at hf
    · rename_i hu
      obtain ⟨n, rfl⟩ := WideShapes.okWide_string hu hk
      exact h2.1
    · cases hf
  | sl e =>
    simp only [AK.fit] at hf
    split at hf
    · rename_i u hu
      obtain ⟨a, n, c, rfl⟩ := WideShapes.okWide_slice hu hk
      exact h2.1
    · cases hf
end
end Go.Proofs.YtbnpclndiichcaaGreatDoor.Eng
end
section
set_option linter.unusedVariables false
set_option linter.unusedSimpArgs false
namespace Go.Proofs.YtbnpclndiichcaaGreatDoor.Eng
open Go
theorem joined_mk {P : Program} {f : FuncId} {fn : Func} {s : ChangeSpec} {c : OpenClaim}
    (a1 : c.wf (OpenSpec.ofChange s) = true) (a2 : laidOutB P = true) (a3 : mapsRowed P = true)
    (a4 : fn.params.all (P.readableRec ·) = true) (a5 : namedTie P c.named s.vars = true)
    (a6 : (c.stops == []) = true) (a7 : (P.stops == []) = true) (a8 : (c.knobs == []) = true) (a9 : (P.stopKnobs == []) = true)
    (b1 : (c.inPlace == P.inPlace f) = true) (b2 : (c.unfollowed == P.unfollowed f) = true) (b3 : (c.recurses == P.recurses f) = true) (b4 : (c.named == P.varsNamed f) = true)
    (b5 : (c.maps == (fn.params.toList ++ s.plain.varTypes P).any (P.mapsRec ·)) = true) (b6 : (c.ifaces == (fn.params.toList ++ s.plain.varTypes P).any (P.ifacesRec ·)) = true) (b7 : (c.mapsOut == P.mapsAmong fn.resultTypes.toList) = true)
    (b8 : (c.loops == (fn.params.toList ++ s.plain.varTypes P).any (P.loopsFrom ·)) = true) (b9 : (c.wideKeys == (fn.params.toList ++ s.plain.varTypes P ++ fn.resultTypes.toList).any (P.wideKeysFrom ·)) = true)
    (c1 : s.vars.all (P.varReadable ·) = true) (c2 : fn.resultTypes.all (fun t => P.readableRec t && decide (t < P.types.size)) = true) (c3 : (c.ifacesOut == fn.resultTypes.toList.any (P.ifacesRec ·)) = true) (c4 : (c.loopsOut == fn.resultTypes.toList.any (P.loopsFrom ·)) = true)
    (c5 : (c.plainKeys == P.plainKeys) = true) (c6 : c.shortTexts.isNone = true) (c7 : P.stopsHeard = true) (c8 : P.mayEnter = true) (c9 : (c.lifted == P.liftsFinal) = true) (d1 : (P.make == some c.make) = true)
    (d2 : c.kinds = [] ∧ c.domain.isEmpty = true) (d3 : (c.pinned == c.pinnedBy) = true)
    (d4 : (c.veiled == (fn.params.toList ++ s.plain.varTypes P ++ fn.resultTypes.toList).any (P.veiledRec ·)) = true) (d5 : c.veiledFits P fn.params.toList (fn.params.toList ++ s.plain.varTypes P ++ fn.resultTypes.toList) = true) : joinedFacts P f fn s c = true := by
  unfold joinedFacts
  simp only [a1, a2, a3, a4, a5, a6, a7, a8, a9, b1, b2, b3, b4, b5, b6, b7, b8, b9, c1, c2, c3, c4, c5, c6, c7, c8, c9, d1, d2.1, d2.2, d3, d4, d5, Bool.and_self, if_true, beq_self_eq_true]
end Go.Proofs.YtbnpclndiichcaaGreatDoor.Eng
end
