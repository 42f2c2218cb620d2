/- What all printed contracts of this seat share: the premise on the world (a table of the library's), and contracts of strconv. -/
import Derived.Test.YtghjemcbkackjaaDoorProg
import Derived.Test.YtghjemcbkackjaaDoorShelf
import Derived.Below
import Derived.Deep.Draws
import Derived.OwnWalk
import Derived.Tactics
import Derived.WalkKit
import Derived.KernelRfl
import Derived.Lib.AppendIntMem
import Derived.Lib.ItoaMem
import Derived.Lib.ItoaNum
import Derived.Lib.AtoiErrMem
import Derived.Test.YtghjemcbkackjaaDoorV
namespace Go.Proofs.YtghjemcbkackjaaDoor.F
open Go.RowKit Go.Proofs.YtghjemcbkackjaaDoorW.PrintWords
set_option linter.unusedVariables false
set_option linter.unusedSimpArgs false

def errW : Option Int → Value
  | none => .nilIface
  | some c => .iface 0 (.int .i64 c)
theorem errW_none : errW none = .nilIface := rfl
theorem errW_some (c : Int) : errW (some c) = .iface 0 (.int .i64 c) := rfl

/-- The premise on the world. -/
structure GW (w : World) : Prop where mk ::
  out : Lib.TabIs Tryd.prog w "internal/strconv.uint64pow10" .u64 Lib.pow10Tab
theorem globN : Tryd.prog.globalNamed "internal/strconv.uint64pow10" = some 2 := by kernel_rfl
theorem GW.below {w w' : World} (h : GW w) (hb : Below w.heap.size w w') : GW w' := by
  refine ⟨?_⟩
  have h := h.out
  unfold Lib.TabIs World.var? at h ⊢
  rw [globN] at h ⊢
  simp only [Option.bind_some] at h ⊢
  have hlt : 2 < w.heap.size := by
    rcases Nat.lt_or_ge 2 w.heap.size with h' | h'
    · exact h'
    · rw [Array.getElem?_eq_none h'] at h; cases h
  rw [hb.block _ hlt]
  exact h
theorem GW.drawn {w w' : World} (h : GW w) (hb : Drawn0 w w') : GW w' := h.below hb.below
theorem GW.drewN {w : World} (h : GW w) (n : Nat) : GW (w.drewN n) := h.drawn ⟨⟨n, rfl⟩⟩
theorem GW.drew {w : World} (h : GW w) : GW w.drew := h.below (below_drew (Below.refl _ _))
theorem GW.at1 {w w' : World} (h : GW w) (hb : Aside0 (Below w.heap.size w w')) : GW w' := h.below hb.out

/-! Short names, for the printed texts' sake. -/
theorem ba {w W : World} (h : Below w.heap.size w W) (o : Obj) : Below w.heap.size w (W.alloc o) := below_alloc h o
theorem bn {B : Nat} {w W : World} (h : Below B w W) (n : Nat) : Below B w (W.drewN n) := pw_below_drewN h n
theorem bd {b : Nat} {w W : World} (h : Below b w W) : Below b w W.drew := h.drew
/-- n Bools, as one number's bits. -/
def bw (n m : Nat) : Array Bool := ((List.range n).map fun i => m.testBit i).toArray

/-! ### strconv.Itoa -/
def digsN : Nat → Nat → List UInt8
  | 0, _ => []
  | k + 1, u => if u < 10 then [UInt8.ofNat (48 + u)] else digsN k (u / 10) ++ [UInt8.ofNat (48 + u % 10)]
theorem digsN_eq : ∀ k u, u < 10 ^ (k + 1) → digsN (k + 1) u = Lib.decDigits u
  | 0, u, h => by rw [Lib.decDigits, digsN, if_pos (by simpa using h), dif_pos (by simpa using h)]
  | k + 1, u, h => by
    rw [Lib.decDigits, digsN]
    by_cases h1 : u < 10
    · rw [if_pos h1, dif_pos h1]
    · rw [if_neg h1, dif_neg h1, digsN_eq k (u / 10) (by rw [Nat.pow_succ] at h; omega)]
def itoaK (n : Int) : List UInt8 := if n < 0 then 45 :: digsN 20 n.natAbs else digsN 20 n.toNat
theorem itoaK_eq (n : Int) (h0 : -9223372036854775808 ≤ n) (h1 : n ≤ 9223372036854775807) : itoaK n = Lib.itoa n := by
  unfold itoaK Lib.itoa
  split
  · rw [digsN_eq 19 _ (by omega)]
  · rw [digsN_eq 19 _ (by omega)]
def strconv_Itoa.f (n : Int) : Option ByteArray := if -9223372036854775808 ≤ n then (if n ≤ 9223372036854775807 then some ⟨(itoaK n).toArray⟩ else none) else none
theorem strconv_Itoa.calls (n : Int) (r : ByteArray) (w : World) (hG : GW w) (h : strconv_Itoa.f n = some r) :
    Calls Tryd.prog 41 #[.int .i64 n] w fun e w' => e = .returned (.string r) ∧ Below w.heap.size w w' := by
  unfold strconv_Itoa.f at h
  split at h
  · split at h
    · rename_i h0 h1
      obtain rfl := Option.some.inj h
      refine (Tryd.strconv_Itoa n h0 h1 w hG.out).mono ?_
      rintro e w' ⟨rfl, k, os, rfl⟩
      exact ⟨by rw [itoaK_eq n h0 h1], Lib.below_grow _ _ (Nat.le_refl _) _ _⟩
    · cases h
  · cases h

/-! ### strconv.Atoi, of short numerals -/
def strconv_Atoi.f (s : ByteArray) : Option (Int × Option Int) := if s.size ≤ 18 then (Lib.atoi s.data.toList).bind fun n => some (n, none) else none
theorem strconv_Atoi.calls (s : ByteArray) (r1 : Int) (r2 : Option Int) (w : World) (hG : GW w) (h : strconv_Atoi.f s = some (r1, r2)) :
    Calls Tryd.prog 48 #[.string s] w fun e w' => e = .returned (.tuple #[.int .i64 r1, errW r2]) ∧ Below w.heap.size w w' := by
  unfold strconv_Atoi.f at h
  split at h
  · rename_i hl
    obtain ⟨n, hn, h⟩ := Option.bind_eq_some_iff.mp h
    simp only [Option.some.injEq, Prod.mk.injEq] at h
    obtain ⟨rfl, rfl⟩ := h
    refine (Tryd.strconv_Atoi s n hl hn w).mono ?_
    rintro e w' ⟨rfl, t, rfl⟩
    exact ⟨rfl, Lib.bytesWorld_below _ _ _⟩
  · cases h
end Go.Proofs.YtghjemcbkackjaaDoor.F
