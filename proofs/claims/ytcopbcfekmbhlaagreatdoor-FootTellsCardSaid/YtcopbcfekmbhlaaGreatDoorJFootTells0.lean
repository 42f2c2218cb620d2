/- What the functions come to in plain data, with proofs, and what that answers. -/
import Derived.Test.YtcopbcfekmbhlaaGreatDoorE2
import Derived.Shelf.Small.Wraps
import Derived.Shelf.Strconv.Atoi
import Derived.Shelf.Strconv.Itoa0
import Derived.Shelf.Strconv.Itoa1
import Derived.Shelf.LaysM
import Derived.Shelf.Strconv.Itoa2
import Derived.Shelf.Strconv.Itoa3
import Derived.Shelf.Strconv.AtoiErrFast
import Derived.Shelf.Strconv.ParseIntEmpty
import Derived.Shelf.Strconv.AtoiFail
import Derived.Shelf.Strconv.Clone
import Derived.Shelf.Strconv.SyntaxError
import Derived.Shelf.LaysC
import Derived.Shelf.Strconv.ToError
import Derived.Shelf.Strconv.Lower
import Derived.Shelf.Strconv.ParseUint10
import Derived.Shelf.Strconv.ParseUint10Empty
import Derived.Shelf.Strconv.ParseUint10Any
import Derived.Shelf.Strconv.ParseInt10
import Derived.Shelf.Strconv.AtoiLong
import Derived.Shelf.Strconv.AtoiInnerAll
import Derived.Shelf.Strconv.RangeError
import Derived.Shelf.Strconv.ToErrorRange
import Derived.Shelf.Strconv.AtoiAll
import Derived.Shelf.Strconv.ErrVarAll
import Derived.Shelf.Strings.Search1
import Derived.Shelf.Strings.Search2
import Derived.Shelf.Strings.Cut
import Derived.Shelf.Strings.Shaped
import Derived.Shelf.Strings.Prefix
import Derived.Test.YtcopbcfekmbhlaaGreatDoorProg
import Derived.Below
import Derived.KernelRfl
import Derived.Lib.AppendIntMem
import Derived.Lib.ItoaMem
import Derived.Lib.ItoaNum
import Derived.Lib.AtoiErrMem
import Derived.Lib.LaidTab
section
set_option linter.unusedVariables false
set_option linter.unusedSimpArgs false
namespace Go.Proofs
open Go.Shelf
def Tryz.lays172_ren : Go.Shelf.Ren := ⟨fun | 172 => 69 | 244 => 90 | 245 => 91 | 247 => 99 | 279 => 100 | 280 => 101 | 281 => 102 | 282 => 103 | 287 => 115 | 316 => 116 | 171 => 41 | 205 => 117 | 321 => 122 | 322 => 123 | 243 => 62 | 246 => 85 | 283 => 93 | 284 => 94 | 285 => 95 | 286 => 96 | 129 => 107 | 317 => 106 | 318 => 108 | 319 => 109 | 320 => 110 | 337 => 118 | 338 => 119 | n => n, fun | 9 => 9 | 3 => 3 | 75 => 84 | 76 => 85 | 4 => 4 | 5 => 5 | 167 => 104 | 37 => 79 | 0 => 0 | 85 => 105 | 2 => 2 | 168 => 107 | 53 => 97 | 175 => 118 | 46 => 115 | 210 => 121 | 127 => 127 | 145 => 130 | 143 => 128 | 21 => 21 | 171 => 96 | 173 => 100 | 212 => 112 | 51 => 113 | 20 => 20 | 213 => 114 | 232 => 131 | 233 => 132 | 80 => 133 | n => n, fun | 15 => 2 | 16 => 3 | 17 => 0 | 18 => 4 | 19 => 5 | n => n⟩
theorem Tryz.lays172 : Go.Proofs.Lays.n172 Tryz.prog Tryz.lays172_ren := {
  mixed := by kernel_rfl
  f129 := Tryz.func107.trans (congrArg some (by kernel_rfl))
  f171 := Tryz.func41.trans (congrArg some (by kernel_rfl))
  f172 := Tryz.func69.trans (congrArg some (by kernel_rfl))
  f205 := Tryz.func117.trans (congrArg some (by kernel_rfl))
  f243 := Tryz.func62.trans (congrArg some (by kernel_rfl))
  f244 := Tryz.func90.trans (congrArg some (by kernel_rfl))
  f245 := Tryz.func91.trans (congrArg some (by kernel_rfl))
  f246 := Tryz.func85.trans (congrArg some (by kernel_rfl))
  f247 := Tryz.func99.trans (congrArg some (by kernel_rfl))
  f279 := Tryz.func100.trans (congrArg some (by kernel_rfl))
  f280 := Tryz.func101.trans (congrArg some (by kernel_rfl))
  f281 := Tryz.func102.trans (congrArg some (by kernel_rfl))
  f282 := Tryz.func103.trans (congrArg some (by kernel_rfl))
  f283 := Tryz.func93.trans (congrArg some (by kernel_rfl))
  f284 := Tryz.func94.trans (congrArg some (by kernel_rfl))
  f285 := Tryz.func95.trans (congrArg some (by kernel_rfl))
  f286 := Tryz.func96.trans (congrArg some (by kernel_rfl))
  f287 := Tryz.func115.trans (congrArg some (by kernel_rfl))
  f316 := Tryz.func116.trans (congrArg some (by kernel_rfl))
  f317 := Tryz.func106.trans (congrArg some (by kernel_rfl))
  f318 := Tryz.func108.trans (congrArg some (by kernel_rfl))
  f319 := Tryz.func109.trans (congrArg some (by kernel_rfl))
  f320 := Tryz.func110.trans (congrArg some (by kernel_rfl))
  f321 := Tryz.func122.trans (congrArg some (by kernel_rfl))
  f322 := Tryz.func123.trans (congrArg some (by kernel_rfl))
  f337 := Tryz.func118.trans (congrArg some (by kernel_rfl))
  f338 := Tryz.func119.trans (congrArg some (by kernel_rfl))
  t0 := Tryz.underlying0
  a0 := Tryz.isAgg0
  z0 := Tryz.sizeOf0
  v0 := Tryz.zeroValue0
  t2 := Tryz.underlying2
  a2 := Tryz.isAgg2
  z2 := Tryz.sizeOf2
  v2 := Tryz.zeroValue2
  t3 := Tryz.underlying3
  a3 := Tryz.isAgg3
  z3 := Tryz.sizeOf3
  v3 := Tryz.zeroValue3
  t4 := Tryz.underlying4
  a4 := Tryz.isAgg4
  z4 := Tryz.sizeOf4
  v4 := Tryz.zeroValue4
  t5 := Tryz.underlying5
  a5 := Tryz.isAgg5
  z5 := Tryz.sizeOf5
  v5 := Tryz.zeroValue5
  t9 := Tryz.underlying9
  a9 := Tryz.isAgg9
  z9 := Tryz.sizeOf9
  v9 := Tryz.zeroValue9
  t20 := Tryz.underlying20
  a20 := Tryz.isAgg20
  z20 := Tryz.sizeOf20
  v20 := Tryz.zeroValue20
  t21 := Tryz.underlying21
  a21 := Tryz.isAgg21
  z21 := Tryz.sizeOf21
  v21 := Tryz.zeroValue21
  t37 := Tryz.underlying79
  a37 := Tryz.isAgg79
  z37 := Tryz.sizeOf79
  v37 := Tryz.zeroValue79
  t46 := Tryz.underlying115
  a46 := Tryz.isAgg115
  z46 := Tryz.sizeOf115
  v46 := Tryz.zeroValue115
  t51 := Tryz.underlying113
  a51 := Tryz.isAgg113
  z51 := Tryz.sizeOf113
  v51 := Tryz.zeroValue113
  t53 := Tryz.underlying97
  a53 := Tryz.isAgg97
  z53 := Tryz.sizeOf97
  v53 := Tryz.zeroValue97
  t75 := Tryz.underlying84
  a75 := Tryz.isAgg84
  z75 := Tryz.sizeOf84
  v75 := Tryz.zeroValue84
  t76 := Tryz.underlying85
  a76 := Tryz.isAgg85
  z76 := Tryz.sizeOf85
  v76 := Tryz.zeroValue85
  t85 := Tryz.underlying105
  a85 := Tryz.isAgg105
  z85 := Tryz.sizeOf105
  v85 := Tryz.zeroValue105
  t127 := Tryz.underlying127
  a127 := Tryz.isAgg127
  z127 := Tryz.sizeOf127
  v127 := Tryz.zeroValue127
  t143 := Tryz.underlying128
  a143 := Tryz.isAgg128
  z143 := Tryz.sizeOf128
  v143 := Tryz.zeroValue128
  t145 := Tryz.underlying130
  a145 := Tryz.isAgg130
  z145 := Tryz.sizeOf130
  v145 := Tryz.zeroValue130
  t167 := Tryz.underlying104
  a167 := Tryz.isAgg104
  z167 := Tryz.sizeOf104
  v167 := Tryz.zeroValue104
  t168 := Tryz.underlying107
  a168 := Tryz.isAgg107
  z168 := Tryz.sizeOf107
  v168 := Tryz.zeroValue107
  t171 := Tryz.underlying96
  a171 := Tryz.isAgg96
  z171 := Tryz.sizeOf96
  v171 := Tryz.zeroValue96
  t173 := Tryz.underlying100
  a173 := Tryz.isAgg100
  z173 := Tryz.sizeOf100
  v173 := Tryz.zeroValue100
  t175 := Tryz.underlying118
  a175 := Tryz.isAgg118
  z175 := Tryz.sizeOf118
  v175 := Tryz.zeroValue118
  t210 := Tryz.underlying121
  a210 := Tryz.isAgg121
  z210 := Tryz.sizeOf121
  v210 := Tryz.zeroValue121
  t212 := Tryz.underlying112
  a212 := Tryz.isAgg112
  z212 := Tryz.sizeOf112
  v212 := Tryz.zeroValue112
  t213 := Tryz.underlying114
  a213 := Tryz.isAgg114
  z213 := Tryz.sizeOf114
  t232 := Tryz.underlying131
  a232 := Tryz.isAgg131
  z232 := Tryz.sizeOf131
  v232 := Tryz.zeroValue131
  t233 := Tryz.underlying132
  a233 := Tryz.isAgg132
  z233 := Tryz.sizeOf132
  v233 := Tryz.zeroValue132
  g15 := by kernel_rfl
  g16 := by kernel_rfl
  g17 := by kernel_rfl
  g18 := by kernel_rfl
  g19 := by kernel_rfl }
open Go.RowKit in
/-- strconv.Atoi: "Atoi is equivalent to ParseInt(s, 10, 0), converted to type int.": AT A DECIMAL NUMERAL OF AT MOST 18 BYTES: its value, and a nil error. The world behind the call: the one new row that the library's '[]byte(s)' lays. (LAID: no walk: one application.) -/
theorem Tryz.strconv_Atoi (s : ByteArray) (n : Int) (hl : s.size ≤ 18) (h : Lib.atoi s.data.toList = some n) (w : World) :
    Calls Tryz.prog 69 #[.string s] w fun e w' => e = .returned (.tuple #[.int .i64 n, .nilIface]) ∧ ∃ t, w' = Lib.bytesWorld w 5 t := Any.strconv_Atoi Tryz.lays172 s n hl h w
def Tryz.laysM171_ren : Go.Shelf.Ren := ⟨fun | 171 => 41 | 243 => 62 | 246 => 85 | 283 => 93 | 284 => 94 | 285 => 95 | 286 => 96 | 129 => 107 | 317 => 106 | 318 => 108 | 319 => 109 | 320 => 110 | 337 => 118 | 338 => 119 | n => n, fun | 3 => 3 | 9 => 9 | 2 => 2 | 4 => 4 | 171 => 96 | 0 => 0 | 53 => 97 | 37 => 79 | 5 => 5 | 173 => 100 | 212 => 112 | 51 => 113 | 20 => 20 | 213 => 114 | 46 => 115 | 232 => 131 | 233 => 132 | n => n, fun | 17 => 0 | 18 => 4 | 19 => 5 | n => n⟩
theorem Tryz.laysM171 : Go.Proofs.LaysM.n171 Tryz.prog Tryz.laysM171_ren := {
  mixed := by kernel_rfl
  f129 := Tryz.func107.trans (congrArg some (by kernel_rfl))
  f171 := Tryz.func41.trans (congrArg some (by kernel_rfl))
  f243 := Tryz.func62.trans (congrArg some (by kernel_rfl))
  f246 := Tryz.func85.trans (congrArg some (by kernel_rfl))
  f283 := Tryz.func93.trans (congrArg some (by kernel_rfl))
  f284 := Tryz.func94.trans (congrArg some (by kernel_rfl))
  f285 := Tryz.func95.trans (congrArg some (by kernel_rfl))
  f286 := Tryz.func96.trans (congrArg some (by kernel_rfl))
  f317 := Tryz.func106.trans (congrArg some (by kernel_rfl))
  f318 := Tryz.func108.trans (congrArg some (by kernel_rfl))
  f319 := Tryz.func109.trans (congrArg some (by kernel_rfl))
  f320 := Tryz.func110.trans (congrArg some (by kernel_rfl))
  f337 := Tryz.func118.trans (congrArg some (by kernel_rfl))
  f338 := Tryz.func119.trans (congrArg some (by kernel_rfl))
  t0 := Tryz.underlying0
  a0 := Tryz.isAgg0
  z0 := Tryz.sizeOf0
  v0 := Tryz.zeroValue0
  t2 := Tryz.underlying2
  a2 := Tryz.isAgg2
  z2 := Tryz.sizeOf2
  v2 := Tryz.zeroValue2
  t3 := Tryz.underlying3
  a3 := Tryz.isAgg3
  z3 := Tryz.sizeOf3
  v3 := Tryz.zeroValue3
  t4 := Tryz.underlying4
  a4 := Tryz.isAgg4
  z4 := Tryz.sizeOf4
  v4 := Tryz.zeroValue4
  t5 := Tryz.underlying5
  a5 := Tryz.isAgg5
  z5 := Tryz.sizeOf5
  v5 := Tryz.zeroValue5
  t9 := Tryz.underlying9
  a9 := Tryz.isAgg9
  z9 := Tryz.sizeOf9
  v9 := Tryz.zeroValue9
  t20 := Tryz.underlying20
  a20 := Tryz.isAgg20
  z20 := Tryz.sizeOf20
  v20 := Tryz.zeroValue20
  t37 := Tryz.underlying79
  a37 := Tryz.isAgg79
  z37 := Tryz.sizeOf79
  v37 := Tryz.zeroValue79
  t46 := Tryz.underlying115
  a46 := Tryz.isAgg115
  z46 := Tryz.sizeOf115
  v46 := Tryz.zeroValue115
  t51 := Tryz.underlying113
  a51 := Tryz.isAgg113
  z51 := Tryz.sizeOf113
  v51 := Tryz.zeroValue113
  t53 := Tryz.underlying97
  a53 := Tryz.isAgg97
  z53 := Tryz.sizeOf97
  v53 := Tryz.zeroValue97
  t171 := Tryz.underlying96
  a171 := Tryz.isAgg96
  z171 := Tryz.sizeOf96
  v171 := Tryz.zeroValue96
  t173 := Tryz.underlying100
  a173 := Tryz.isAgg100
  z173 := Tryz.sizeOf100
  v173 := Tryz.zeroValue100
  t212 := Tryz.underlying112
  a212 := Tryz.isAgg112
  z212 := Tryz.sizeOf112
  v212 := Tryz.zeroValue112
  t213 := Tryz.underlying114
  a213 := Tryz.isAgg114
  z213 := Tryz.sizeOf114
  t232 := Tryz.underlying131
  a232 := Tryz.isAgg131
  z232 := Tryz.sizeOf131
  v232 := Tryz.zeroValue131
  t233 := Tryz.underlying132
  a233 := Tryz.isAgg132
  z233 := Tryz.sizeOf132
  v233 := Tryz.zeroValue132
  g17 := by kernel_rfl
  g18 := by kernel_rfl
  g19 := by kernel_rfl
  i0 := by kernel_rfl
  i2 := by kernel_rfl
  i3 := by kernel_rfl
  i4 := by kernel_rfl
  i5 := by kernel_rfl
  i9 := by kernel_rfl
  i20 := by kernel_rfl
  i37 := by kernel_rfl
  i46 := by kernel_rfl
  i51 := by kernel_rfl
  i53 := by kernel_rfl
  i171 := by kernel_rfl
  i173 := by kernel_rfl
  i212 := by kernel_rfl
  i232 := by kernel_rfl
  i233 := by kernel_rfl
  m17 := by kernel_rfl
  m18 := by kernel_rfl
  m19 := by kernel_rfl }
open Go.RowKit Go.Sort Go.Lib in
/-- strconv.Itoa: "Itoa is equivalent to FormatInt(int64(i), 10).": i's DECIMAL NUMERAL ('Lib.itoa': a '-' where i is negative, then the digits), FOR EVERY int. The world behind the call: the world before it, new blocks behind the heap (the library's 'var a [24]byte'), draws. (LAID: no walk: one application.) -/
theorem Tryz.strconv_Itoa (n : Int) (h0 : -9223372036854775808 ≤ n) (h1 : n ≤ 9223372036854775807) (w : World) (htab : Lib.TabIs Tryz.prog w "internal/strconv.uint64pow10" .u64 Lib.pow10Tab) :
    Calls Tryz.prog 41 #[.int .i64 n] w fun e w' => e = .returned (.string ⟨(Lib.itoa n).toArray⟩) ∧ ∃ k os, w' = grow (w.drewN k) os := Any.strconv_Itoa Tryz.laysM171 n h0 h1 w htab
def Tryz.lays217_ren : Go.Shelf.Ren := ⟨fun | 217 => 111 | 266 => 120 | n => n, fun | 9 => 9 | 5 => 5 | 3 => 3 | n => n, fun | n => n⟩
theorem Tryz.lays217 : Go.Proofs.Lays.n217 Tryz.prog Tryz.lays217_ren := {
  mixed := by kernel_rfl
  f217 := Tryz.func111.trans (congrArg some (by kernel_rfl))
  f266 := Tryz.func120.trans (congrArg some (by kernel_rfl))
  t3 := Tryz.underlying3
  a3 := Tryz.isAgg3
  z3 := Tryz.sizeOf3
  v3 := Tryz.zeroValue3
  t5 := Tryz.underlying5
  a5 := Tryz.isAgg5
  z5 := Tryz.sizeOf5
  v5 := Tryz.zeroValue5
  t9 := Tryz.underlying9
  a9 := Tryz.isAgg9
  z9 := Tryz.sizeOf9
  v9 := Tryz.zeroValue9 }
open Go.RowKit Go.Lib in
/-- internal/stringslite.IndexByte (what strings.IndexByte calls): IT RETURNS 'Lib.indexByte s c'; the world is as it was. (LAID: no walk: one application.) -/
theorem Tryz.stringslite_IndexByte (s : ByteArray) (c : Int) (w : World) :
    Calls Tryz.prog 111 #[.string s, .int .u8 c] w fun e w' => e = .returned (.int .i64 (Lib.indexByte s.data.toList c.toNat.toUInt8)) ∧ w' = w := Any.stringslite_IndexByte Tryz.lays217 s c w
end Go.Proofs
end
section
set_option linter.unusedVariables false
set_option linter.unusedSimpArgs false
namespace Go.Proofs.YtcopbcfekmbhlaaGreatDoor
open Go Go.Proofs.YtcopbcfekmbhlaaGreatDoor.Eng Go.RowKit
set_option linter.unusedVariables false
def gives : FuncId → Bool := fun _ => false
theorem follows : Tryz.prog.follows .mixedOrders = true := by kernel_rfl
/-- Objects of memory that stay as they are, and hold a table. -/
abbrev Gs := {l : List (Nat × Obj) // ∀ w : World, (∀ x ∈ l, w.heap[x.1]? = some x.2) → Lib.TabIs Tryz.prog w "internal/strconv.uint64pow10" .u64 Lib.pow10Tab}
variable {G : Gs}

def Xatoi (s : ByteArray) (K : Int → Value → Prop) : Prop := ∃ n, s.size ≤ 18 ∧ Lib.atoi s.data.toList = some n ∧ K n .nilIface
def Jatoi (X : ByteArray → (Int → Value → Prop) → Prop) : Inst := ⟨69, (.cons .str .nil), .nil, (.cons (.int .i64) (.cons .val .nil)), .nil, fun x y K => X x.1 (fun u0 u1 => K (u0, (u1, ())) ())⟩
def Iatoi : Inst := Jatoi Xatoi
theorem Iatoi_ok : InstOk Tryz.prog G.1 Iatoi := fun ⟨s, _⟩ y K ⟨n, h1, h2, h3⟩ =>
  (told (args := [.string s]) (rs := [.int .i64 n, .nilIface]) rfl fun w _ => (Tryz.strconv_Atoi s n h1 h2 w).mono fun e w' ⟨he, t, hw⟩ => ⟨he, by subst hw; exact Lib.bytesWorld_below _ _ _⟩).mono fun rs h' ⟨e1, e2⟩ => ⟨(n, (.nilIface, ())), (), e1, e2, h3⟩
def Xitoa (n : Int) (K : ByteArray → Prop) : Prop := (-9223372036854775808 ≤ n ∧ n ≤ 9223372036854775807) ∧ K ⟨(Lib.itoa n).toArray⟩
def Jitoa (X : Int → (ByteArray → Prop) → Prop) : Inst := ⟨41, (.cons (.int .i64) .nil), .nil, (.cons .str .nil), .nil, fun x y K => X x.1 (fun u0 => K (u0, ()) ())⟩
def Iitoa : Inst := Jitoa Xitoa
theorem Iitoa_ok : InstOk Tryz.prog G.1 Iitoa := fun ⟨n, _⟩ y K ⟨h1, h3⟩ =>
  (told (args := [.int .i64 n]) (rs := [.string ⟨(Lib.itoa n).toArray⟩]) rfl fun w hw => (Tryz.strconv_Itoa n h1.1 h1.2 w (G.2 w hw)).mono fun e w' ⟨he, k, os, hw⟩ => ⟨he, by subst hw; exact Lib.below_grow _ _ (Nat.le_refl _) _ _⟩).mono fun rs h' ⟨e1, e2⟩ => ⟨(⟨(Lib.itoa n).toArray⟩, ()), (), e1, e2, h3⟩
def XindexByte (s : ByteArray) (c : Int) (K : Int → Prop) : Prop := K (Lib.indexByte s.data.toList c.toNat.toUInt8)
def JindexByte (X : ByteArray → Int → (Int → Prop) → Prop) : Inst := ⟨111, (.cons .str (.cons (.int .u8) .nil)), .nil, (.cons (.int .i64) .nil), .nil, fun x y K => X x.1 x.2.1 (fun u0 => K (u0, ()) ())⟩
def IindexByte : Inst := JindexByte XindexByte
theorem IindexByte_ok : InstOk Tryz.prog G.1 IindexByte := fun ⟨s, c, _⟩ y K h3 =>
  (told (args := [.string s, .int .u8 c]) (rs := [.int .i64 (Lib.indexByte s.data.toList c.toNat.toUInt8)]) rfl fun w _ => (Tryz.stringslite_IndexByte s c w).mono fun e w' ⟨he, hw⟩ => ⟨he, by subst hw; exact Below.refl _ _⟩).mono fun rs h' ⟨e1, e2⟩ => ⟨(_, ()), (), e1, e2, h3⟩
/-- Where the table stands in memory, it stays. -/
theorem gs_of {w : World} (h : Lib.TabIs Tryz.prog w "internal/strconv.uint64pow10" .u64 Lib.pow10Tab) : ∃ G : Gs, ∀ x ∈ G.1, w.heap[x.1]? = some x.2 := by
  unfold Lib.TabIs World.var? at h
  cases hg : Tryz.prog.globalNamed "internal/strconv.uint64pow10" with
  | none => rw [hg] at h; cases h
  | some g =>
    rw [hg] at h
    simp only [Option.bind_some] at h
    cases ho : w.heap[g]? with
    | none => rw [ho] at h; cases h
    | some o =>
      rw [ho] at h
      refine ⟨⟨[(g, o)], fun w' hw => ?_⟩, fun x hx => ?_⟩
      · have := hw (g, o) (.head _)
        unfold Lib.TabIs World.var?
        rw [hg]
        simp only [Option.bind_some, this]
        exact h
      · simp only [List.mem_singleton] at hx
        subst hx; exact ho
theorem globN : Tryz.prog.globalNamed "internal/strconv.uint64pow10" = some 0 := by kernel_rfl
end Go.Proofs.YtcopbcfekmbhlaaGreatDoor
end
section
set_option linter.unusedVariables false
set_option linter.unusedSimpArgs false
namespace Go.Proofs.YtcopbcfekmbhlaaGreatDoor
open Go Go.Proofs.YtcopbcfekmbhlaaGreatDoor.Eng
set_option linter.unusedVariables false
set_option maxRecDepth 100000
set_option maxHeartbeats 4000000
variable {G : Gs}
/- internal/stringslite.HasPrefix -/
def Yinternal_stringslite_HasPrefix (a0 : ByteArray) (a1 : ByteArray) (K : (Bool) → Prop) : Prop :=
 (if decide ((↑(ByteArray.size a0) : Int) ≥ (↑(ByteArray.size a1) : Int)) = true then
 (if (0 : Int) ≤ (↑(ByteArray.size a1) : Int) ∧ (↑(ByteArray.size a1) : Int) ≤ (↑(ByteArray.size a0) : Int) then
 K (ByteArray.toList (ByteArray.extract a0 (0 : Nat) (Int.toNat (↑(ByteArray.size a1) : Int))) == ByteArray.toList a1)
 else
 False)
 else
 K false)
def Xinternal_stringslite_HasPrefix (a0 : ByteArray) (a1 : ByteArray) (K : (Bool) → Prop) : Prop := Yinternal_stringslite_HasPrefix a0 a1 K
def Jinternal_stringslite_HasPrefix (X : (ByteArray) → (ByteArray) → ((Bool) → Prop) → Prop) : Inst := ⟨97, (.cons .str (.cons .str .nil)), .nil, (.cons .bool .nil), .nil, fun x y K => X x.1 x.2.1 (fun u0 => K (u0, ()) ())⟩
def Iinternal_stringslite_HasPrefix : Inst := Jinternal_stringslite_HasPrefix Xinternal_stringslite_HasPrefix
theorem Einternal_stringslite_HasPrefix (x : PL.T (.cons .str (.cons .str .nil))) (y : PH.T .nil) (K : PL.T (.cons .bool .nil) → PH.T .nil → Prop) : Yinternal_stringslite_HasPrefix x.1 x.2.1 (fun u0 => K (u0, ()) ()) = bodyC (envP Tryz.prog 18 gives ⟨tabC [], tabL []⟩) Tryz.f97 (Tryz.f97.body.getD .skip) (PL.enc (.cons .str (.cons .str .nil)) x) (PH.enc .nil y) (resK (.cons .bool .nil) .nil K) := by kernel_rfl
theorem Iinternal_stringslite_HasPrefix_ok : InstOk Tryz.prog G.1 Iinternal_stringslite_HasPrefix := inst_ok (gives := gives) (is := []) [] okNil 18 follows Tryz.func97 (by kernel_rfl) (fun x => by kernel_rfl) (fun x y K => Einternal_stringslite_HasPrefix x y K)

/- internal/stringslite.CutPrefix -/
def Yinternal_stringslite_CutPrefix (xinternal_stringslite_HasPrefix : (ByteArray) → (ByteArray) → ((Bool) → Prop) → Prop) (a0 : ByteArray) (a1 : ByteArray) (K : (ByteArray) → (Bool) → Prop) : Prop :=
 xinternal_stringslite_HasPrefix a0 a1 (fun r2 =>
 (if (!r2) = true then
 K a0 false
 else
 (if (0 : Int) ≤ (↑(ByteArray.size a0) : Int) ∧ (↑(ByteArray.size a0) : Int) ≤ (↑(ByteArray.size a0) : Int) then
 (if (0 : Int) ≤ (↑(ByteArray.size a1) : Int) ∧ (↑(ByteArray.size a1) : Int) ≤ (↑(ByteArray.size a0) : Int) then
 K (ByteArray.extract a0 (Int.toNat (↑(ByteArray.size a1) : Int)) (Int.toNat (↑(ByteArray.size a0) : Int))) true
 else
 False)
 else
 False)))
def Xinternal_stringslite_CutPrefix (a0 : ByteArray) (a1 : ByteArray) (K : (ByteArray) → (Bool) → Prop) : Prop := Yinternal_stringslite_CutPrefix Xinternal_stringslite_HasPrefix a0 a1 K
def Jinternal_stringslite_CutPrefix (X : (ByteArray) → (ByteArray) → ((ByteArray) → (Bool) → Prop) → Prop) : Inst := ⟨87, (.cons .str (.cons .str .nil)), .nil, (.cons .str (.cons .bool .nil)), .nil, fun x y K => X x.1 x.2.1 (fun u0 u1 => K (u0, (u1, ())) ())⟩
def Iinternal_stringslite_CutPrefix : Inst := Jinternal_stringslite_CutPrefix Xinternal_stringslite_CutPrefix
theorem Einternal_stringslite_CutPrefix (xinternal_stringslite_HasPrefix : (ByteArray) → (ByteArray) → ((Bool) → Prop) → Prop) (x : PL.T (.cons .str (.cons .str .nil))) (y : PH.T .nil) (K : PL.T (.cons .str (.cons .bool .nil)) → PH.T .nil → Prop) : Yinternal_stringslite_CutPrefix xinternal_stringslite_HasPrefix x.1 x.2.1 (fun u0 u1 => K (u0, (u1, ())) ()) = bodyC (envP Tryz.prog 15 gives ⟨tabC [Jinternal_stringslite_HasPrefix xinternal_stringslite_HasPrefix], tabL []⟩) Tryz.f87 (Tryz.f87.body.getD .skip) (PL.enc (.cons .str (.cons .str .nil)) x) (PH.enc .nil y) (resK (.cons .str (.cons .bool .nil)) .nil K) := by kernel_rfl
theorem Iinternal_stringslite_CutPrefix_ok : InstOk Tryz.prog G.1 Iinternal_stringslite_CutPrefix := inst_ok (gives := gives) (is := [Iinternal_stringslite_HasPrefix]) [] (okCons Iinternal_stringslite_HasPrefix_ok okNil) 15 follows Tryz.func87 (by kernel_rfl) (fun x => by kernel_rfl) (fun x y K => Einternal_stringslite_CutPrefix Xinternal_stringslite_HasPrefix x y K)

/- strings.CutPrefix -/
def Ystrings_CutPrefix (xinternal_stringslite_CutPrefix : (ByteArray) → (ByteArray) → ((ByteArray) → (Bool) → Prop) → Prop) (a0 : ByteArray) (a1 : ByteArray) (K : (ByteArray) → (Bool) → Prop) : Prop :=
 xinternal_stringslite_CutPrefix a0 a1 (fun r2 r3 =>
 K r2 r3)
def Xstrings_CutPrefix (a0 : ByteArray) (a1 : ByteArray) (K : (ByteArray) → (Bool) → Prop) : Prop := Ystrings_CutPrefix Xinternal_stringslite_CutPrefix a0 a1 K
def Jstrings_CutPrefix (X : (ByteArray) → (ByteArray) → ((ByteArray) → (Bool) → Prop) → Prop) : Inst := ⟨64, (.cons .str (.cons .str .nil)), .nil, (.cons .str (.cons .bool .nil)), .nil, fun x y K => X x.1 x.2.1 (fun u0 u1 => K (u0, (u1, ())) ())⟩
def Istrings_CutPrefix : Inst := Jstrings_CutPrefix Xstrings_CutPrefix
theorem Estrings_CutPrefix (xinternal_stringslite_CutPrefix : (ByteArray) → (ByteArray) → ((ByteArray) → (Bool) → Prop) → Prop) (x : PL.T (.cons .str (.cons .str .nil))) (y : PH.T .nil) (K : PL.T (.cons .str (.cons .bool .nil)) → PH.T .nil → Prop) : Ystrings_CutPrefix xinternal_stringslite_CutPrefix x.1 x.2.1 (fun u0 u1 => K (u0, (u1, ())) ()) = bodyC (envP Tryz.prog 11 gives ⟨tabC [Jinternal_stringslite_CutPrefix xinternal_stringslite_CutPrefix], tabL []⟩) Tryz.f64 (Tryz.f64.body.getD .skip) (PL.enc (.cons .str (.cons .str .nil)) x) (PH.enc .nil y) (resK (.cons .str (.cons .bool .nil)) .nil K) := by kernel_rfl
theorem Istrings_CutPrefix_ok : InstOk Tryz.prog G.1 Istrings_CutPrefix := inst_ok (gives := gives) (is := [Iinternal_stringslite_CutPrefix]) [] (okCons Iinternal_stringslite_CutPrefix_ok okNil) 11 follows Tryz.func64 (by kernel_rfl) (fun x => by kernel_rfl) (fun x y K => Estrings_CutPrefix Xinternal_stringslite_CutPrefix x y K)

/- internal/stringslite.Index -/
def Yinternal_stringslite_Index (xindexByte : ByteArray → Int → (Int → Prop) → Prop) (a0 : ByteArray) (a1 : ByteArray) (K : (Int) → Prop) : Prop :=
 (if ((↑(ByteArray.size a1) : Int) == (0 : Int)) = true then
 K (0 : Int)
 else
 (if (ByteArray.toList a1 == ByteArray.toList a0) = true then
 K (0 : Int)
 else
 (if ((↑(ByteArray.size a1) : Int) == (1 : Int)) = true then
 (if (0 : Int) ≤ (0 : Int) ∧ (0 : Int) < (↑(ByteArray.size a1) : Int) then
 xindexByte a0 (Eng.bAt a1 (0 : Nat)) (fun r2 =>
 K r2)
 else
 False)
 else
 (if decide ((↑(ByteArray.size a1) : Int) ≥ (↑(ByteArray.size a0) : Int)) = true then
 K (-1 : Int)
 else
 False))))
def Xinternal_stringslite_Index (a0 : ByteArray) (a1 : ByteArray) (K : (Int) → Prop) : Prop := Yinternal_stringslite_Index XindexByte a0 a1 K
def Jinternal_stringslite_Index (X : (ByteArray) → (ByteArray) → ((Int) → Prop) → Prop) : Inst := ⟨98, (.cons .str (.cons .str .nil)), .nil, (.cons (.int .i64) .nil), .nil, fun x y K => X x.1 x.2.1 (fun u0 => K (u0, ()) ())⟩
def Iinternal_stringslite_Index : Inst := Jinternal_stringslite_Index Xinternal_stringslite_Index
theorem Einternal_stringslite_Index (xindexByte : ByteArray → Int → (Int → Prop) → Prop) (x : PL.T (.cons .str (.cons .str .nil))) (y : PH.T .nil) (K : PL.T (.cons (.int .i64) .nil) → PH.T .nil → Prop) : Yinternal_stringslite_Index xindexByte x.1 x.2.1 (fun u0 => K (u0, ()) ()) = bodyC (envP Tryz.prog 143 gives ⟨tabC [JindexByte xindexByte], tabL []⟩) Tryz.f98 (Tryz.f98.body.getD .skip) (PL.enc (.cons .str (.cons .str .nil)) x) (PH.enc .nil y) (resK (.cons (.int .i64) .nil) .nil K) := by kernel_rfl
theorem Iinternal_stringslite_Index_ok : InstOk Tryz.prog G.1 Iinternal_stringslite_Index := inst_ok (gives := gives) (is := [IindexByte]) [] (okCons IindexByte_ok okNil) 143 follows Tryz.func98 (by kernel_rfl) (fun x => by kernel_rfl) (fun x y K => Einternal_stringslite_Index XindexByte x y K)

/- internal/stringslite.Cut -/
def Yinternal_stringslite_Cut (xinternal_stringslite_Index : (ByteArray) → (ByteArray) → ((Int) → Prop) → Prop) (a0 : ByteArray) (a1 : ByteArray) (K : (ByteArray) → (ByteArray) → (Bool) → Prop) : Prop :=
 xinternal_stringslite_Index a0 a1 (fun r2 =>
 (if decide (r2 ≥ (0 : Int)) = true then
 (if (0 : Int) ≤ r2 ∧ r2 ≤ (↑(ByteArray.size a0) : Int) then
 (if (0 : Int) ≤ (0 : Int) ∧ (0 : Int) ≤ r2 then
 (if (0 : Int) ≤ (↑(ByteArray.size a0) : Int) ∧ (↑(ByteArray.size a0) : Int) ≤ (↑(ByteArray.size a0) : Int) then
 (if (0 : Int) ≤ w64 (r2 + (↑(ByteArray.size a1) : Int)) ∧ w64 (r2 + (↑(ByteArray.size a1) : Int)) ≤ (↑(ByteArray.size a0) : Int) then
 (lt (ByteArray.extract a0 (Int.toNat (w64 (r2 + (↑(ByteArray.size a1) : Int)))) (Int.toNat (↑(ByteArray.size a0) : Int))) fun v3 =>
 K (ByteArray.extract a0 (0 : Nat) (Int.toNat r2)) v3 true)
 else
 False)
 else
 False)
 else
 False)
 else
 False)
 else
 K a0 (ByteArray.mk #[]) false))
def Xinternal_stringslite_Cut (a0 : ByteArray) (a1 : ByteArray) (K : (ByteArray) → (ByteArray) → (Bool) → Prop) : Prop := Yinternal_stringslite_Cut Xinternal_stringslite_Index a0 a1 K
def Jinternal_stringslite_Cut (X : (ByteArray) → (ByteArray) → ((ByteArray) → (ByteArray) → (Bool) → Prop) → Prop) : Inst := ⟨88, (.cons .str (.cons .str .nil)), .nil, (.cons .str (.cons .str (.cons .bool .nil))), .nil, fun x y K => X x.1 x.2.1 (fun u0 u1 u2 => K (u0, (u1, (u2, ()))) ())⟩
def Iinternal_stringslite_Cut : Inst := Jinternal_stringslite_Cut Xinternal_stringslite_Cut
theorem Einternal_stringslite_Cut (xinternal_stringslite_Index : (ByteArray) → (ByteArray) → ((Int) → Prop) → Prop) (x : PL.T (.cons .str (.cons .str .nil))) (y : PH.T .nil) (K : PL.T (.cons .str (.cons .str (.cons .bool .nil))) → PH.T .nil → Prop) : Yinternal_stringslite_Cut xinternal_stringslite_Index x.1 x.2.1 (fun u0 u1 u2 => K (u0, (u1, (u2, ()))) ()) = bodyC (envP Tryz.prog 23 gives ⟨tabC [Jinternal_stringslite_Index xinternal_stringslite_Index], tabL []⟩) Tryz.f88 (Tryz.f88.body.getD .skip) (PL.enc (.cons .str (.cons .str .nil)) x) (PH.enc .nil y) (resK (.cons .str (.cons .str (.cons .bool .nil))) .nil K) := by kernel_rfl
theorem Iinternal_stringslite_Cut_ok : InstOk Tryz.prog G.1 Iinternal_stringslite_Cut := inst_ok (gives := gives) (is := [Iinternal_stringslite_Index]) [] (okCons Iinternal_stringslite_Index_ok okNil) 23 follows Tryz.func88 (by kernel_rfl) (fun x => by kernel_rfl) (fun x y K => Einternal_stringslite_Cut Xinternal_stringslite_Index x y K)

/- strings.Cut -/
def Ystrings_Cut (xinternal_stringslite_Cut : (ByteArray) → (ByteArray) → ((ByteArray) → (ByteArray) → (Bool) → Prop) → Prop) (a0 : ByteArray) (a1 : ByteArray) (K : (ByteArray) → (ByteArray) → (Bool) → Prop) : Prop :=
 xinternal_stringslite_Cut a0 a1 (fun r2 r3 r4 =>
 K r2 r3 r4)
def Xstrings_Cut (a0 : ByteArray) (a1 : ByteArray) (K : (ByteArray) → (ByteArray) → (Bool) → Prop) : Prop := Ystrings_Cut Xinternal_stringslite_Cut a0 a1 K
def Jstrings_Cut (X : (ByteArray) → (ByteArray) → ((ByteArray) → (ByteArray) → (Bool) → Prop) → Prop) : Inst := ⟨65, (.cons .str (.cons .str .nil)), .nil, (.cons .str (.cons .str (.cons .bool .nil))), .nil, fun x y K => X x.1 x.2.1 (fun u0 u1 u2 => K (u0, (u1, (u2, ()))) ())⟩
def Istrings_Cut : Inst := Jstrings_Cut Xstrings_Cut
theorem Estrings_Cut (xinternal_stringslite_Cut : (ByteArray) → (ByteArray) → ((ByteArray) → (ByteArray) → (Bool) → Prop) → Prop) (x : PL.T (.cons .str (.cons .str .nil))) (y : PH.T .nil) (K : PL.T (.cons .str (.cons .str (.cons .bool .nil))) → PH.T .nil → Prop) : Ystrings_Cut xinternal_stringslite_Cut x.1 x.2.1 (fun u0 u1 u2 => K (u0, (u1, (u2, ()))) ()) = bodyC (envP Tryz.prog 13 gives ⟨tabC [Jinternal_stringslite_Cut xinternal_stringslite_Cut], tabL []⟩) Tryz.f65 (Tryz.f65.body.getD .skip) (PL.enc (.cons .str (.cons .str .nil)) x) (PH.enc .nil y) (resK (.cons .str (.cons .str (.cons .bool .nil))) .nil K) := by kernel_rfl
theorem Istrings_Cut_ok : InstOk Tryz.prog G.1 Istrings_Cut := inst_ok (gives := gives) (is := [Iinternal_stringslite_Cut]) [] (okCons Iinternal_stringslite_Cut_ok okNil) 13 follows Tryz.func65 (by kernel_rfl) (fun x => by kernel_rfl) (fun x y K => Estrings_Cut Xinternal_stringslite_Cut x y K)

/- epact/abbr.good -/
def Yabbr_good (a0 : Int) (K : (Bool) → Prop) : Prop :=
 (if decide (a0 ≥ (97 : Int)) = true then
 (if decide (a0 ≤ (122 : Int)) = true then
 K true
 else
 (if decide (a0 ≥ (65 : Int)) = true then
 (if decide (a0 ≤ (90 : Int)) = true then
 K true
 else
 (if decide (a0 ≥ (48 : Int)) = true then
 (if decide (a0 ≤ (57 : Int)) = true then
 K true
 else
 (if (a0 == (43 : Int)) = true then
 K true
 else
 K (a0 == (45 : Int))))
 else
 (if (a0 == (43 : Int)) = true then
 K true
 else
 K (a0 == (45 : Int)))))
 else
 (if decide (a0 ≥ (48 : Int)) = true then
 (if decide (a0 ≤ (57 : Int)) = true then
 K true
 else
 (if (a0 == (43 : Int)) = true then
 K true
 else
 K (a0 == (45 : Int))))
 else
 (if (a0 == (43 : Int)) = true then
 K true
 else
 K (a0 == (45 : Int))))))
 else
 (if decide (a0 ≥ (65 : Int)) = true then
 (if decide (a0 ≤ (90 : Int)) = true then
 K true
 else
 (if decide (a0 ≥ (48 : Int)) = true then
 (if decide (a0 ≤ (57 : Int)) = true then
 K true
 else
 (if (a0 == (43 : Int)) = true then
 K true
 else
 K (a0 == (45 : Int))))
 else
 (if (a0 == (43 : Int)) = true then
 K true
 else
 K (a0 == (45 : Int)))))
 else
 (if decide (a0 ≥ (48 : Int)) = true then
 (if decide (a0 ≤ (57 : Int)) = true then
 K true
 else
 (if (a0 == (43 : Int)) = true then
 K true
 else
 K (a0 == (45 : Int))))
 else
 (if (a0 == (43 : Int)) = true then
 K true
 else
 K (a0 == (45 : Int))))))
def Xabbr_good (a0 : Int) (K : (Bool) → Prop) : Prop := Yabbr_good a0 K
def Jabbr_good (X : (Int) → ((Bool) → Prop) → Prop) : Inst := ⟨84, (.cons (.int .i32) .nil), .nil, (.cons .bool .nil), .nil, fun x y K => X x.1 (fun u0 => K (u0, ()) ())⟩
def Iabbr_good : Inst := Jabbr_good Xabbr_good
theorem Eabbr_good (x : PL.T (.cons (.int .i32) .nil)) (y : PH.T .nil) (K : PL.T (.cons .bool .nil) → PH.T .nil → Prop) : Yabbr_good x.1 (fun u0 => K (u0, ()) ()) = bodyC (envP Tryz.prog 33 gives ⟨tabC [], tabL []⟩) Tryz.f84 (Tryz.f84.body.getD .skip) (PL.enc (.cons (.int .i32) .nil) x) (PH.enc .nil y) (resK (.cons .bool .nil) .nil K) := by kernel_rfl
theorem Iabbr_good_ok : InstOk Tryz.prog G.1 Iabbr_good := inst_ok (gives := gives) (is := []) [] okNil 33 follows Tryz.func84 (by kernel_rfl) (fun x => by kernel_rfl) (fun x y K => Eabbr_good x y K)

/- epact/abbr.Right$1 -/
def Yabbr_Right_1 (xabbr_good : (Int) → ((Bool) → Prop) → Prop) (a0 : Int) (K : (Bool) → Prop) : Prop :=
 xabbr_good a0 (fun r1 =>
 K !r1)
def Xabbr_Right_1 (a0 : Int) (K : (Bool) → Prop) : Prop := Yabbr_Right_1 Xabbr_good a0 K
def Jabbr_Right_1 (X : (Int) → ((Bool) → Prop) → Prop) : Inst := ⟨83, (.cons (.int .i32) .nil), .nil, (.cons .bool .nil), .nil, fun x y K => X x.1 (fun u0 => K (u0, ()) ())⟩
def Iabbr_Right_1 : Inst := Jabbr_Right_1 Xabbr_Right_1
theorem Eabbr_Right_1 (xabbr_good : (Int) → ((Bool) → Prop) → Prop) (x : PL.T (.cons (.int .i32) .nil)) (y : PH.T .nil) (K : PL.T (.cons .bool .nil) → PH.T .nil → Prop) : Yabbr_Right_1 xabbr_good x.1 (fun u0 => K (u0, ()) ()) = bodyC (envP Tryz.prog 6 gives ⟨tabC [Jabbr_good xabbr_good], tabL []⟩) Tryz.f83 (Tryz.f83.body.getD .skip) (PL.enc (.cons (.int .i32) .nil) x) (PH.enc .nil y) (resK (.cons .bool .nil) .nil K) := by kernel_rfl
theorem Iabbr_Right_1_ok : InstOk Tryz.prog G.1 Iabbr_Right_1 := inst_ok (gives := gives) (is := [Iabbr_good]) [] (okCons Iabbr_good_ok okNil) 6 follows Tryz.func83 (by kernel_rfl) (fun x => by kernel_rfl) (fun x y K => Eabbr_Right_1 Xabbr_good x y K)

/- strings.indexFunc -/
def Lstrings_indexFunc_0 (xabbr_Right_1 : (Int) → ((Bool) → Prop) → Prop) (K : (Int) → Prop) : (((Unit × Unit) × Bool × Int × Unit × Unit) × ((ByteArray × Nat) × Unit) → Prop) → ((Unit × Unit) × Bool × Int × Unit × Unit) × ((ByteArray × Nat) × Unit) → Prop := fun k2 x3 =>
 (if x3.2.1.2 < ByteArray.size x3.2.1.1 then
 xabbr_Right_1 (↑(Prod.fst (Go.Utf8.decode x3.2.1.1 x3.2.1.2)) : Int) (fun r4 =>
 (if (r4 == x3.1.2.1) = true then
 K (↑(x3.2.1.2) : Int)
 else
 k2 ((((), ()), x3.1.2.1, x3.1.2.2.1, (), ()), (x3.2.1.1, x3.2.1.2 + Prod.snd (Go.Utf8.decode x3.2.1.1 x3.2.1.2)), ())))
 else
 K (-1 : Int))
def Lstrings_indexFunc_0p : Lp := ⟨1094, [.trim 1094], (.cons 1 (.fn (.func 83) .nil .nil) (.cons 2 .bool (.cons 6 (.int .i64) (.cons 10 (.it 224) .nil)))), (.cons 224 .iter .nil), 0⟩
def Ystrings_indexFunc (xabbr_Right_1 : (Int) → ((Bool) → Prop) → Prop) (a0 : ByteArray) (a1 : Bool) (K : (Int) → Prop) : Prop :=
 lp (Lstrings_indexFunc_0 xabbr_Right_1 K) ((((), ()), a1, (0 : Int), (), ()), (a0, (0 : Nat)), ())
def Xstrings_indexFunc (a0 : ByteArray) (a1 : Bool) (K : (Int) → Prop) : Prop := Ystrings_indexFunc Xabbr_Right_1 a0 a1 K
def Jstrings_indexFunc (X : (ByteArray) → (Bool) → ((Int) → Prop) → Prop) : Inst := ⟨86, (.cons .str (.cons (.fn (.func 83) .nil .nil) (.cons .bool .nil))), .nil, (.cons (.int .i64) .nil), .nil, fun x y K => X x.1 x.2.2.1 (fun u0 => K (u0, ()) ())⟩
def Istrings_indexFunc : Inst := Jstrings_indexFunc Xstrings_indexFunc
theorem Estrings_indexFunc (xabbr_Right_1 : (Int) → ((Bool) → Prop) → Prop) (x : PL.T (.cons .str (.cons (.fn (.func 83) .nil .nil) (.cons .bool .nil)))) (y : PH.T .nil) (K : PL.T (.cons (.int .i64) .nil) → PH.T .nil → Prop) : Ystrings_indexFunc xabbr_Right_1 x.1 x.2.2.1 (fun u0 => K (u0, ()) ()) = bodyC (envP Tryz.prog 21 gives ⟨tabC [Jabbr_Right_1 xabbr_Right_1], tabL [Lstrings_indexFunc_0p]⟩) Tryz.f86 (Tryz.f86.body.getD .skip) (PL.enc (.cons .str (.cons (.fn (.func 83) .nil .nil) (.cons .bool .nil))) x) (PH.enc .nil y) (resK (.cons (.int .i64) .nil) .nil K) := by kernel_rfl
theorem Istrings_indexFunc_ok : InstOk Tryz.prog G.1 Istrings_indexFunc := inst_ok (gives := gives) (is := [Iabbr_Right_1]) [Lstrings_indexFunc_0p] (okCons Iabbr_Right_1_ok okNil) 21 follows Tryz.func86 (by kernel_rfl) (fun x => by kernel_rfl) (fun x y K => Estrings_indexFunc Xabbr_Right_1 x y K)

/- strings.IndexFunc -/
def Ystrings_IndexFunc (xstrings_indexFunc : (ByteArray) → (Bool) → ((Int) → Prop) → Prop) (a0 : ByteArray) (K : (Int) → Prop) : Prop :=
 xstrings_indexFunc a0 true (fun r1 =>
 K r1)
def Xstrings_IndexFunc (a0 : ByteArray) (K : (Int) → Prop) : Prop := Ystrings_IndexFunc Xstrings_indexFunc a0 K
def Jstrings_IndexFunc (X : (ByteArray) → ((Int) → Prop) → Prop) : Inst := ⟨63, (.cons .str (.cons (.fn (.func 83) .nil .nil) .nil)), .nil, (.cons (.int .i64) .nil), .nil, fun x y K => X x.1 (fun u0 => K (u0, ()) ())⟩
def Istrings_IndexFunc : Inst := Jstrings_IndexFunc Xstrings_IndexFunc
theorem Estrings_IndexFunc (xstrings_indexFunc : (ByteArray) → (Bool) → ((Int) → Prop) → Prop) (x : PL.T (.cons .str (.cons (.fn (.func 83) .nil .nil) .nil))) (y : PH.T .nil) (K : PL.T (.cons (.int .i64) .nil) → PH.T .nil → Prop) : Ystrings_IndexFunc xstrings_indexFunc x.1 (fun u0 => K (u0, ()) ()) = bodyC (envP Tryz.prog 8 gives ⟨tabC [Jstrings_indexFunc xstrings_indexFunc], tabL []⟩) Tryz.f63 (Tryz.f63.body.getD .skip) (PL.enc (.cons .str (.cons (.fn (.func 83) .nil .nil) .nil)) x) (PH.enc .nil y) (resK (.cons (.int .i64) .nil) .nil K) := by kernel_rfl
theorem Istrings_IndexFunc_ok : InstOk Tryz.prog G.1 Istrings_IndexFunc := inst_ok (gives := gives) (is := [Istrings_indexFunc]) [] (okCons Istrings_indexFunc_ok okNil) 8 follows Tryz.func63 (by kernel_rfl) (fun x => by kernel_rfl) (fun x y K => Estrings_IndexFunc Xstrings_indexFunc x y K)

/- strings.ContainsFunc -/
def Ystrings_ContainsFunc (xstrings_IndexFunc : (ByteArray) → ((Int) → Prop) → Prop) (a0 : ByteArray) (K : (Bool) → Prop) : Prop :=
 xstrings_IndexFunc a0 (fun r1 =>
 K (decide (r1 ≥ (0 : Int))))
def Xstrings_ContainsFunc (a0 : ByteArray) (K : (Bool) → Prop) : Prop := Ystrings_ContainsFunc Xstrings_IndexFunc a0 K
def Jstrings_ContainsFunc (X : (ByteArray) → ((Bool) → Prop) → Prop) : Inst := ⟨45, (.cons .str (.cons (.fn (.func 83) .nil .nil) .nil)), .nil, (.cons .bool .nil), .nil, fun x y K => X x.1 (fun u0 => K (u0, ()) ())⟩
def Istrings_ContainsFunc : Inst := Jstrings_ContainsFunc Xstrings_ContainsFunc
theorem Estrings_ContainsFunc (xstrings_IndexFunc : (ByteArray) → ((Int) → Prop) → Prop) (x : PL.T (.cons .str (.cons (.fn (.func 83) .nil .nil) .nil))) (y : PH.T .nil) (K : PL.T (.cons .bool .nil) → PH.T .nil → Prop) : Ystrings_ContainsFunc xstrings_IndexFunc x.1 (fun u0 => K (u0, ()) ()) = bodyC (envP Tryz.prog 9 gives ⟨tabC [Jstrings_IndexFunc xstrings_IndexFunc], tabL []⟩) Tryz.f45 (Tryz.f45.body.getD .skip) (PL.enc (.cons .str (.cons (.fn (.func 83) .nil .nil) .nil)) x) (PH.enc .nil y) (resK (.cons .bool .nil) .nil K) := by kernel_rfl
theorem Istrings_ContainsFunc_ok : InstOk Tryz.prog G.1 Istrings_ContainsFunc := inst_ok (gives := gives) (is := [Istrings_IndexFunc]) [] (okCons Istrings_IndexFunc_ok okNil) 9 follows Tryz.func45 (by kernel_rfl) (fun x => by kernel_rfl) (fun x y K => Estrings_ContainsFunc Xstrings_IndexFunc x y K)

/- epact/abbr.Right -/
def Yabbr_Right (xstrings_ContainsFunc : (ByteArray) → ((Bool) → Prop) → Prop) (a0 : ByteArray) (K : (Bool) → Prop) : Prop :=
 (if decide ((↑(ByteArray.size a0) : Int) ≥ (3 : Int)) = true then
 (if decide ((↑(ByteArray.size a0) : Int) ≤ (16 : Int)) = true then
 xstrings_ContainsFunc a0 (fun r1 =>
 K !r1)
 else
 K false)
 else
 K false)
def Xabbr_Right (a0 : ByteArray) (K : (Bool) → Prop) : Prop := Yabbr_Right Xstrings_ContainsFunc a0 K
def Jabbr_Right (X : (ByteArray) → ((Bool) → Prop) → Prop) : Inst := ⟨57, (.cons .str .nil), .nil, (.cons .bool .nil), .nil, fun x y K => X x.1 (fun u0 => K (u0, ()) ())⟩
def Iabbr_Right : Inst := Jabbr_Right Xabbr_Right
theorem Eabbr_Right (xstrings_ContainsFunc : (ByteArray) → ((Bool) → Prop) → Prop) (x : PL.T (.cons .str .nil)) (y : PH.T .nil) (K : PL.T (.cons .bool .nil) → PH.T .nil → Prop) : Yabbr_Right xstrings_ContainsFunc x.1 (fun u0 => K (u0, ()) ()) = bodyC (envP Tryz.prog 18 gives ⟨tabC [Jstrings_ContainsFunc xstrings_ContainsFunc], tabL []⟩) Tryz.f57 (Tryz.f57.body.getD .skip) (PL.enc (.cons .str .nil) x) (PH.enc .nil y) (resK (.cons .bool .nil) .nil K) := by kernel_rfl
theorem Iabbr_Right_ok : InstOk Tryz.prog G.1 Iabbr_Right := inst_ok (gives := gives) (is := [Istrings_ContainsFunc]) [] (okCons Istrings_ContainsFunc_ok okNil) 18 follows Tryz.func57 (by kernel_rfl) (fun x => by kernel_rfl) (fun x y K => Eabbr_Right Xstrings_ContainsFunc x y K)

/- epact/foot.plain -/
def Yfoot_plain (a0 : Int) (K : (Bool) → Prop) : Prop :=
 (if decide (a0 ≥ (97 : Int)) = true then
 (if decide (a0 ≤ (122 : Int)) = true then
 K true
 else
 (if decide (a0 ≥ (65 : Int)) = true then
 K (decide (a0 ≤ (90 : Int)))
 else
 K false))
 else
 (if decide (a0 ≥ (65 : Int)) = true then
 K (decide (a0 ≤ (90 : Int)))
 else
 K false))
def Xfoot_plain (a0 : Int) (K : (Bool) → Prop) : Prop := Yfoot_plain a0 K
def Jfoot_plain (X : (Int) → ((Bool) → Prop) → Prop) : Inst := ⟨44, (.cons (.int .i32) .nil), .nil, (.cons .bool .nil), .nil, fun x y K => X x.1 (fun u0 => K (u0, ()) ())⟩
def Ifoot_plain : Inst := Jfoot_plain Xfoot_plain
theorem Efoot_plain (x : PL.T (.cons (.int .i32) .nil)) (y : PH.T .nil) (K : PL.T (.cons .bool .nil) → PH.T .nil → Prop) : Yfoot_plain x.1 (fun u0 => K (u0, ()) ()) = bodyC (envP Tryz.prog 17 gives ⟨tabC [], tabL []⟩) Tryz.f44 (Tryz.f44.body.getD .skip) (PL.enc (.cons (.int .i32) .nil) x) (PH.enc .nil y) (resK (.cons .bool .nil) .nil K) := by kernel_rfl
theorem Ifoot_plain_ok : InstOk Tryz.prog G.1 Ifoot_plain := inst_ok (gives := gives) (is := []) [] okNil 17 follows Tryz.func44 (by kernel_rfl) (fun x => by kernel_rfl) (fun x y K => Efoot_plain x y K)

/- (*epact/foot.reader).name$1 -/
def Yfoot_reader_name_1 (xfoot_plain : (Int) → ((Bool) → Prop) → Prop) (a0 : Int) (K : (Bool) → Prop) : Prop :=
 xfoot_plain a0 (fun r1 =>
 K !r1)
def Xfoot_reader_name_1 (a0 : Int) (K : (Bool) → Prop) : Prop := Yfoot_reader_name_1 Xfoot_plain a0 K
def Jfoot_reader_name_1 (X : (Int) → ((Bool) → Prop) → Prop) : Inst := ⟨66, (.cons (.int .i32) .nil), .nil, (.cons .bool .nil), .nil, fun x y K => X x.1 (fun u0 => K (u0, ()) ())⟩
def Ifoot_reader_name_1 : Inst := Jfoot_reader_name_1 Xfoot_reader_name_1
theorem Efoot_reader_name_1 (xfoot_plain : (Int) → ((Bool) → Prop) → Prop) (x : PL.T (.cons (.int .i32) .nil)) (y : PH.T .nil) (K : PL.T (.cons .bool .nil) → PH.T .nil → Prop) : Yfoot_reader_name_1 xfoot_plain x.1 (fun u0 => K (u0, ()) ()) = bodyC (envP Tryz.prog 6 gives ⟨tabC [Jfoot_plain xfoot_plain], tabL []⟩) Tryz.f66 (Tryz.f66.body.getD .skip) (PL.enc (.cons (.int .i32) .nil) x) (PH.enc .nil y) (resK (.cons .bool .nil) .nil K) := by kernel_rfl
theorem Ifoot_reader_name_1_ok : InstOk Tryz.prog G.1 Ifoot_reader_name_1 := inst_ok (gives := gives) (is := [Ifoot_plain]) [] (okCons Ifoot_plain_ok okNil) 6 follows Tryz.func66 (by kernel_rfl) (fun x => by kernel_rfl) (fun x y K => Efoot_reader_name_1 Xfoot_plain x y K)

/- strings.indexFunc -/
def Lstrings_indexFunc_1_0 (xfoot_reader_name_1 : (Int) → ((Bool) → Prop) → Prop) (K : (Int) → Prop) : (((Unit × Unit) × Bool × Int × Unit × Unit) × ((ByteArray × Nat) × Unit) → Prop) → ((Unit × Unit) × Bool × Int × Unit × Unit) × ((ByteArray × Nat) × Unit) → Prop := fun k2 x3 =>
 (if x3.2.1.2 < ByteArray.size x3.2.1.1 then
 xfoot_reader_name_1 (↑(Prod.fst (Go.Utf8.decode x3.2.1.1 x3.2.1.2)) : Int) (fun r4 =>
 (if (r4 == x3.1.2.1) = true then
 K (↑(x3.2.1.2) : Int)
 else
 k2 ((((), ()), x3.1.2.1, x3.1.2.2.1, (), ()), (x3.2.1.1, x3.2.1.2 + Prod.snd (Go.Utf8.decode x3.2.1.1 x3.2.1.2)), ())))
 else
 K (-1 : Int))
def Lstrings_indexFunc_1_0p : Lp := ⟨1094, [.trim 1094], (.cons 1 (.fn (.func 66) .nil .nil) (.cons 2 .bool (.cons 6 (.int .i64) (.cons 10 (.it 224) .nil)))), (.cons 224 .iter .nil), 0⟩
def Ystrings_indexFunc_1 (xfoot_reader_name_1 : (Int) → ((Bool) → Prop) → Prop) (a0 : ByteArray) (a1 : Bool) (K : (Int) → Prop) : Prop :=
 lp (Lstrings_indexFunc_1_0 xfoot_reader_name_1 K) ((((), ()), a1, (0 : Int), (), ()), (a0, (0 : Nat)), ())
def Xstrings_indexFunc_1 (a0 : ByteArray) (a1 : Bool) (K : (Int) → Prop) : Prop := Ystrings_indexFunc_1 Xfoot_reader_name_1 a0 a1 K
def Jstrings_indexFunc_1 (X : (ByteArray) → (Bool) → ((Int) → Prop) → Prop) : Inst := ⟨86, (.cons .str (.cons (.fn (.func 66) .nil .nil) (.cons .bool .nil))), .nil, (.cons (.int .i64) .nil), .nil, fun x y K => X x.1 x.2.2.1 (fun u0 => K (u0, ()) ())⟩
def Istrings_indexFunc_1 : Inst := Jstrings_indexFunc_1 Xstrings_indexFunc_1
theorem Estrings_indexFunc_1 (xfoot_reader_name_1 : (Int) → ((Bool) → Prop) → Prop) (x : PL.T (.cons .str (.cons (.fn (.func 66) .nil .nil) (.cons .bool .nil)))) (y : PH.T .nil) (K : PL.T (.cons (.int .i64) .nil) → PH.T .nil → Prop) : Ystrings_indexFunc_1 xfoot_reader_name_1 x.1 x.2.2.1 (fun u0 => K (u0, ()) ()) = bodyC (envP Tryz.prog 21 gives ⟨tabC [Jfoot_reader_name_1 xfoot_reader_name_1], tabL [Lstrings_indexFunc_1_0p]⟩) Tryz.f86 (Tryz.f86.body.getD .skip) (PL.enc (.cons .str (.cons (.fn (.func 66) .nil .nil) (.cons .bool .nil))) x) (PH.enc .nil y) (resK (.cons (.int .i64) .nil) .nil K) := by kernel_rfl
theorem Istrings_indexFunc_1_ok : InstOk Tryz.prog G.1 Istrings_indexFunc_1 := inst_ok (gives := gives) (is := [Ifoot_reader_name_1]) [Lstrings_indexFunc_1_0p] (okCons Ifoot_reader_name_1_ok okNil) 21 follows Tryz.func86 (by kernel_rfl) (fun x => by kernel_rfl) (fun x y K => Estrings_indexFunc_1 Xfoot_reader_name_1 x y K)

/- strings.IndexFunc -/
def Ystrings_IndexFunc_1 (xstrings_indexFunc_1 : (ByteArray) → (Bool) → ((Int) → Prop) → Prop) (a0 : ByteArray) (K : (Int) → Prop) : Prop :=
 xstrings_indexFunc_1 a0 true (fun r1 =>
 K r1)
def Xstrings_IndexFunc_1 (a0 : ByteArray) (K : (Int) → Prop) : Prop := Ystrings_IndexFunc_1 Xstrings_indexFunc_1 a0 K
def Jstrings_IndexFunc_1 (X : (ByteArray) → ((Int) → Prop) → Prop) : Inst := ⟨63, (.cons .str (.cons (.fn (.func 66) .nil .nil) .nil)), .nil, (.cons (.int .i64) .nil), .nil, fun x y K => X x.1 (fun u0 => K (u0, ()) ())⟩
def Istrings_IndexFunc_1 : Inst := Jstrings_IndexFunc_1 Xstrings_IndexFunc_1
theorem Estrings_IndexFunc_1 (xstrings_indexFunc_1 : (ByteArray) → (Bool) → ((Int) → Prop) → Prop) (x : PL.T (.cons .str (.cons (.fn (.func 66) .nil .nil) .nil))) (y : PH.T .nil) (K : PL.T (.cons (.int .i64) .nil) → PH.T .nil → Prop) : Ystrings_IndexFunc_1 xstrings_indexFunc_1 x.1 (fun u0 => K (u0, ()) ()) = bodyC (envP Tryz.prog 8 gives ⟨tabC [Jstrings_indexFunc_1 xstrings_indexFunc_1], tabL []⟩) Tryz.f63 (Tryz.f63.body.getD .skip) (PL.enc (.cons .str (.cons (.fn (.func 66) .nil .nil) .nil)) x) (PH.enc .nil y) (resK (.cons (.int .i64) .nil) .nil K) := by kernel_rfl
theorem Istrings_IndexFunc_1_ok : InstOk Tryz.prog G.1 Istrings_IndexFunc_1 := inst_ok (gives := gives) (is := [Istrings_indexFunc_1]) [] (okCons Istrings_indexFunc_1_ok okNil) 8 follows Tryz.func63 (by kernel_rfl) (fun x => by kernel_rfl) (fun x y K => Estrings_IndexFunc_1 Xstrings_indexFunc_1 x y K)

/- (*epact/foot.reader).name -/
def Yfoot_reader_name (xstrings_CutPrefix : (ByteArray) → (ByteArray) → ((ByteArray) → (Bool) → Prop) → Prop) (xstrings_Cut : (ByteArray) → (ByteArray) → ((ByteArray) → (ByteArray) → (Bool) → Prop) → Prop) (xabbr_Right : (ByteArray) → ((Bool) → Prop) → Prop) (xstrings_IndexFunc_1 : (ByteArray) → ((Int) → Prop) → Prop) (a0 : ByteArray) (a1 : Int) (a2 : Bool) (a3 : ByteArray) (a4 : Int) (a5 : Bool) (a6 : ByteArray) (a7 : Bool) (a8 : Int) (a9 : Int) (a10 : Int) (a11 : Int) (a12 : Int) (a13 : Int) (a14 : Int) (a15 : Int) (a16 : Int) (a17 : Int) (K : (ByteArray) → (Bool) → (ByteArray) → (Int) → (Bool) → (ByteArray) → (Int) → (Bool) → (ByteArray) → (Bool) → (Int) → (Int) → (Int) → (Int) → (Int) → (Int) → (Int) → (Int) → (Int) → (Int) → Prop) : Prop :=
 xstrings_CutPrefix a0 (ByteArray.mk #[(60 : UInt8)]) (fun r18 r19 =>
 (if r19 = true then
 xstrings_Cut r18 (ByteArray.mk #[(62 : UInt8)]) (fun r20 r21 r22 =>
 (if r22 = true then
 xabbr_Right r20 (fun r23 =>
 K r20 r23 r21 a1 a2 a3 a4 a5 a6 a7 a8 a9 a10 a11 a12 a13 a14 a15 a16 a17)
 else
 K r20 false r21 a1 a2 a3 a4 a5 a6 a7 a8 a9 a10 a11 a12 a13 a14 a15 a16 a17))
 else
 xstrings_IndexFunc_1 a0 (fun r24 =>
 (if decide (r24 < (0 : Int)) = true then
 (if (0 : Int) ≤ (↑(ByteArray.size a0) : Int) ∧ (↑(ByteArray.size a0) : Int) ≤ (↑(ByteArray.size a0) : Int) then
 (if (0 : Int) ≤ (↑(ByteArray.size a0) : Int) ∧ (↑(ByteArray.size a0) : Int) ≤ (↑(ByteArray.size a0) : Int) then
 (if (0 : Int) ≤ (↑(ByteArray.size a0) : Int) ∧ (↑(ByteArray.size a0) : Int) ≤ (↑(ByteArray.size a0) : Int) then
 xabbr_Right (ByteArray.extract a0 (0 : Nat) (Int.toNat (↑(ByteArray.size a0) : Int))) (fun r25 =>
 K (ByteArray.extract a0 (0 : Nat) (Int.toNat (↑(ByteArray.size a0) : Int))) r25 (ByteArray.extract a0 (Int.toNat (↑(ByteArray.size a0) : Int)) (Int.toNat (↑(ByteArray.size a0) : Int))) a1 a2 a3 a4 a5 a6 a7 a8 a9 a10 a11 a12 a13 a14 a15 a16 a17)
 else
 False)
 else
 False)
 else
 False)
 else
 (if (0 : Int) ≤ r24 ∧ r24 ≤ (↑(ByteArray.size a0) : Int) then
 (if (0 : Int) ≤ (0 : Int) ∧ (0 : Int) ≤ r24 then
 (if (0 : Int) ≤ (↑(ByteArray.size a0) : Int) ∧ (↑(ByteArray.size a0) : Int) ≤ (↑(ByteArray.size a0) : Int) then
 (if (0 : Int) ≤ r24 ∧ r24 ≤ (↑(ByteArray.size a0) : Int) then
 xabbr_Right (ByteArray.extract a0 (0 : Nat) (Int.toNat r24)) (fun r26 =>
 K (ByteArray.extract a0 (0 : Nat) (Int.toNat r24)) r26 (ByteArray.extract a0 (Int.toNat r24) (Int.toNat (↑(ByteArray.size a0) : Int))) a1 a2 a3 a4 a5 a6 a7 a8 a9 a10 a11 a12 a13 a14 a15 a16 a17)
 else
 False)
 else
 False)
 else
 False)
 else
 False)))))
def Xfoot_reader_name (a0 : ByteArray) (a1 : Int) (a2 : Bool) (a3 : ByteArray) (a4 : Int) (a5 : Bool) (a6 : ByteArray) (a7 : Bool) (a8 : Int) (a9 : Int) (a10 : Int) (a11 : Int) (a12 : Int) (a13 : Int) (a14 : Int) (a15 : Int) (a16 : Int) (a17 : Int) (K : (ByteArray) → (Bool) → (ByteArray) → (Int) → (Bool) → (ByteArray) → (Int) → (Bool) → (ByteArray) → (Bool) → (Int) → (Int) → (Int) → (Int) → (Int) → (Int) → (Int) → (Int) → (Int) → (Int) → Prop) : Prop := Yfoot_reader_name Xstrings_CutPrefix Xstrings_Cut Xabbr_Right Xstrings_IndexFunc_1 a0 a1 a2 a3 a4 a5 a6 a7 a8 a9 a10 a11 a12 a13 a14 a15 a16 a17 K
def Jfoot_reader_name (X : (ByteArray) → (Int) → (Bool) → (ByteArray) → (Int) → (Bool) → (ByteArray) → (Bool) → (Int) → (Int) → (Int) → (Int) → (Int) → (Int) → (Int) → (Int) → (Int) → (Int) → ((ByteArray) → (Bool) → (ByteArray) → (Int) → (Bool) → (ByteArray) → (Int) → (Bool) → (ByteArray) → (Bool) → (Int) → (Int) → (Int) → (Int) → (Int) → (Int) → (Int) → (Int) → (Int) → (Int) → Prop) → Prop) : Inst := ⟨48, (.cons (.ptr 0 0) .nil), (.cons 0 (.cells [.str, .int .i64, .bool, .str, .int .i64, .bool, .str, .bool, .int .i64, .int .i64, .int .i64, .int .i64, .int .i64, .int .i64, .int .i64, .int .i64, .int .i64, .int .i64] (.cons .str (.cons (.int .i64) (.cons .bool (.cons .str (.cons (.int .i64) (.cons .bool (.cons .str (.cons .bool (.cons (.int .i64) (.cons (.int .i64) (.cons (.int .i64) (.cons (.int .i64) (.cons (.int .i64) (.cons (.int .i64) (.cons (.int .i64) (.cons (.int .i64) (.cons (.int .i64) (.cons (.int .i64) .nil))))))))))))))))))) .nil), (.cons .str (.cons .bool .nil)), (.cons 0 (.cells [.str, .int .i64, .bool, .str, .int .i64, .bool, .str, .bool, .int .i64, .int .i64, .int .i64, .int .i64, .int .i64, .int .i64, .int .i64, .int .i64, .int .i64, .int .i64] (.cons .str (.cons (.int .i64) (.cons .bool (.cons .str (.cons (.int .i64) (.cons .bool (.cons .str (.cons .bool (.cons (.int .i64) (.cons (.int .i64) (.cons (.int .i64) (.cons (.int .i64) (.cons (.int .i64) (.cons (.int .i64) (.cons (.int .i64) (.cons (.int .i64) (.cons (.int .i64) (.cons (.int .i64) .nil))))))))))))))))))) .nil), fun x y K => X y.1.1 y.1.2.1 y.1.2.2.1 y.1.2.2.2.1 y.1.2.2.2.2.1 y.1.2.2.2.2.2.1 y.1.2.2.2.2.2.2.1 y.1.2.2.2.2.2.2.2.1 y.1.2.2.2.2.2.2.2.2.1 y.1.2.2.2.2.2.2.2.2.2.1 y.1.2.2.2.2.2.2.2.2.2.2.1 y.1.2.2.2.2.2.2.2.2.2.2.2.1 y.1.2.2.2.2.2.2.2.2.2.2.2.2.1 y.1.2.2.2.2.2.2.2.2.2.2.2.2.2.1 y.1.2.2.2.2.2.2.2.2.2.2.2.2.2.2.1 y.1.2.2.2.2.2.2.2.2.2.2.2.2.2.2.2.1 y.1.2.2.2.2.2.2.2.2.2.2.2.2.2.2.2.2.1 y.1.2.2.2.2.2.2.2.2.2.2.2.2.2.2.2.2.2.1 (fun u0 u1 u2 u3 u4 u5 u6 u7 u8 u9 u10 u11 u12 u13 u14 u15 u16 u17 u18 u19 => K (u0, (u1, ())) ((u2, (u3, (u4, (u5, (u6, (u7, (u8, (u9, (u10, (u11, (u12, (u13, (u14, (u15, (u16, (u17, (u18, (u19, ())))))))))))))))))), ()))⟩
def Ifoot_reader_name : Inst := Jfoot_reader_name Xfoot_reader_name
theorem Efoot_reader_name (xstrings_CutPrefix : (ByteArray) → (ByteArray) → ((ByteArray) → (Bool) → Prop) → Prop) (xstrings_Cut : (ByteArray) → (ByteArray) → ((ByteArray) → (ByteArray) → (Bool) → Prop) → Prop) (xabbr_Right : (ByteArray) → ((Bool) → Prop) → Prop) (xstrings_IndexFunc_1 : (ByteArray) → ((Int) → Prop) → Prop) (x : PL.T (.cons (.ptr 0 0) .nil)) (y : PH.T (.cons 0 (.cells [.str, .int .i64, .bool, .str, .int .i64, .bool, .str, .bool, .int .i64, .int .i64, .int .i64, .int .i64, .int .i64, .int .i64, .int .i64, .int .i64, .int .i64, .int .i64] (.cons .str (.cons (.int .i64) (.cons .bool (.cons .str (.cons (.int .i64) (.cons .bool (.cons .str (.cons .bool (.cons (.int .i64) (.cons (.int .i64) (.cons (.int .i64) (.cons (.int .i64) (.cons (.int .i64) (.cons (.int .i64) (.cons (.int .i64) (.cons (.int .i64) (.cons (.int .i64) (.cons (.int .i64) .nil))))))))))))))))))) .nil)) (K : PL.T (.cons .str (.cons .bool .nil)) → PH.T (.cons 0 (.cells [.str, .int .i64, .bool, .str, .int .i64, .bool, .str, .bool, .int .i64, .int .i64, .int .i64, .int .i64, .int .i64, .int .i64, .int .i64, .int .i64, .int .i64, .int .i64] (.cons .str (.cons (.int .i64) (.cons .bool (.cons .str (.cons (.int .i64) (.cons .bool (.cons .str (.cons .bool (.cons (.int .i64) (.cons (.int .i64) (.cons (.int .i64) (.cons (.int .i64) (.cons (.int .i64) (.cons (.int .i64) (.cons (.int .i64) (.cons (.int .i64) (.cons (.int .i64) (.cons (.int .i64) .nil))))))))))))))))))) .nil) → Prop) : Yfoot_reader_name xstrings_CutPrefix xstrings_Cut xabbr_Right xstrings_IndexFunc_1 y.1.1 y.1.2.1 y.1.2.2.1 y.1.2.2.2.1 y.1.2.2.2.2.1 y.1.2.2.2.2.2.1 y.1.2.2.2.2.2.2.1 y.1.2.2.2.2.2.2.2.1 y.1.2.2.2.2.2.2.2.2.1 y.1.2.2.2.2.2.2.2.2.2.1 y.1.2.2.2.2.2.2.2.2.2.2.1 y.1.2.2.2.2.2.2.2.2.2.2.2.1 y.1.2.2.2.2.2.2.2.2.2.2.2.2.1 y.1.2.2.2.2.2.2.2.2.2.2.2.2.2.1 y.1.2.2.2.2.2.2.2.2.2.2.2.2.2.2.1 y.1.2.2.2.2.2.2.2.2.2.2.2.2.2.2.2.1 y.1.2.2.2.2.2.2.2.2.2.2.2.2.2.2.2.2.1 y.1.2.2.2.2.2.2.2.2.2.2.2.2.2.2.2.2.2.1 (fun u0 u1 u2 u3 u4 u5 u6 u7 u8 u9 u10 u11 u12 u13 u14 u15 u16 u17 u18 u19 => K (u0, (u1, ())) ((u2, (u3, (u4, (u5, (u6, (u7, (u8, (u9, (u10, (u11, (u12, (u13, (u14, (u15, (u16, (u17, (u18, (u19, ())))))))))))))))))), ())) = bodyC (envP Tryz.prog 61 gives ⟨tabC [Jstrings_CutPrefix xstrings_CutPrefix, Jstrings_Cut xstrings_Cut, Jabbr_Right xabbr_Right, Jstrings_IndexFunc_1 xstrings_IndexFunc_1], tabL []⟩) Tryz.f48 (Tryz.f48.body.getD .skip) (PL.enc (.cons (.ptr 0 0) .nil) x) (PH.enc (.cons 0 (.cells [.str, .int .i64, .bool, .str, .int .i64, .bool, .str, .bool, .int .i64, .int .i64, .int .i64, .int .i64, .int .i64, .int .i64, .int .i64, .int .i64, .int .i64, .int .i64] (.cons .str (.cons (.int .i64) (.cons .bool (.cons .str (.cons (.int .i64) (.cons .bool (.cons .str (.cons .bool (.cons (.int .i64) (.cons (.int .i64) (.cons (.int .i64) (.cons (.int .i64) (.cons (.int .i64) (.cons (.int .i64) (.cons (.int .i64) (.cons (.int .i64) (.cons (.int .i64) (.cons (.int .i64) .nil))))))))))))))))))) .nil) y) (resK (.cons .str (.cons .bool .nil)) (.cons 0 (.cells [.str, .int .i64, .bool, .str, .int .i64, .bool, .str, .bool, .int .i64, .int .i64, .int .i64, .int .i64, .int .i64, .int .i64, .int .i64, .int .i64, .int .i64, .int .i64] (.cons .str (.cons (.int .i64) (.cons .bool (.cons .str (.cons (.int .i64) (.cons .bool (.cons .str (.cons .bool (.cons (.int .i64) (.cons (.int .i64) (.cons (.int .i64) (.cons (.int .i64) (.cons (.int .i64) (.cons (.int .i64) (.cons (.int .i64) (.cons (.int .i64) (.cons (.int .i64) (.cons (.int .i64) .nil))))))))))))))))))) .nil) K) := by kernel_rfl
theorem Ifoot_reader_name_ok : InstOk Tryz.prog G.1 Ifoot_reader_name := inst_ok (gives := gives) (is := [Istrings_CutPrefix, Istrings_Cut, Iabbr_Right, Istrings_IndexFunc_1]) [] (okCons Istrings_CutPrefix_ok (okCons Istrings_Cut_ok (okCons Iabbr_Right_ok (okCons Istrings_IndexFunc_1_ok okNil)))) 61 follows Tryz.func48 (by kernel_rfl) (fun x => by kernel_rfl) (fun x y K => Efoot_reader_name Xstrings_CutPrefix Xstrings_Cut Xabbr_Right Xstrings_IndexFunc_1 x y K)

/- internal/stringslite.TrimPrefix -/
def Yinternal_stringslite_TrimPrefix (xinternal_stringslite_HasPrefix : (ByteArray) → (ByteArray) → ((Bool) → Prop) → Prop) (a0 : ByteArray) (a1 : ByteArray) (K : (ByteArray) → Prop) : Prop :=
 xinternal_stringslite_HasPrefix a0 a1 (fun r2 =>
 (if r2 = true then
 (if (0 : Int) ≤ (↑(ByteArray.size a0) : Int) ∧ (↑(ByteArray.size a0) : Int) ≤ (↑(ByteArray.size a0) : Int) then
 (if (0 : Int) ≤ (↑(ByteArray.size a1) : Int) ∧ (↑(ByteArray.size a1) : Int) ≤ (↑(ByteArray.size a0) : Int) then
 K (ByteArray.extract a0 (Int.toNat (↑(ByteArray.size a1) : Int)) (Int.toNat (↑(ByteArray.size a0) : Int)))
 else
 False)
 else
 False)
 else
 K a0))
def Xinternal_stringslite_TrimPrefix (a0 : ByteArray) (a1 : ByteArray) (K : (ByteArray) → Prop) : Prop := Yinternal_stringslite_TrimPrefix Xinternal_stringslite_HasPrefix a0 a1 K
def Jinternal_stringslite_TrimPrefix (X : (ByteArray) → (ByteArray) → ((ByteArray) → Prop) → Prop) : Inst := ⟨89, (.cons .str (.cons .str .nil)), .nil, (.cons .str .nil), .nil, fun x y K => X x.1 x.2.1 (fun u0 => K (u0, ()) ())⟩
def Iinternal_stringslite_TrimPrefix : Inst := Jinternal_stringslite_TrimPrefix Xinternal_stringslite_TrimPrefix
theorem Einternal_stringslite_TrimPrefix (xinternal_stringslite_HasPrefix : (ByteArray) → (ByteArray) → ((Bool) → Prop) → Prop) (x : PL.T (.cons .str (.cons .str .nil))) (y : PH.T .nil) (K : PL.T (.cons .str .nil) → PH.T .nil → Prop) : Yinternal_stringslite_TrimPrefix xinternal_stringslite_HasPrefix x.1 x.2.1 (fun u0 => K (u0, ()) ()) = bodyC (envP Tryz.prog 13 gives ⟨tabC [Jinternal_stringslite_HasPrefix xinternal_stringslite_HasPrefix], tabL []⟩) Tryz.f89 (Tryz.f89.body.getD .skip) (PL.enc (.cons .str (.cons .str .nil)) x) (PH.enc .nil y) (resK (.cons .str .nil) .nil K) := by kernel_rfl
theorem Iinternal_stringslite_TrimPrefix_ok : InstOk Tryz.prog G.1 Iinternal_stringslite_TrimPrefix := inst_ok (gives := gives) (is := [Iinternal_stringslite_HasPrefix]) [] (okCons Iinternal_stringslite_HasPrefix_ok okNil) 13 follows Tryz.func89 (by kernel_rfl) (fun x => by kernel_rfl) (fun x y K => Einternal_stringslite_TrimPrefix Xinternal_stringslite_HasPrefix x y K)

/- strings.TrimPrefix -/
def Ystrings_TrimPrefix (xinternal_stringslite_TrimPrefix : (ByteArray) → (ByteArray) → ((ByteArray) → Prop) → Prop) (a0 : ByteArray) (a1 : ByteArray) (K : (ByteArray) → Prop) : Prop :=
 xinternal_stringslite_TrimPrefix a0 a1 (fun r2 =>
 K r2)
def Xstrings_TrimPrefix (a0 : ByteArray) (a1 : ByteArray) (K : (ByteArray) → Prop) : Prop := Ystrings_TrimPrefix Xinternal_stringslite_TrimPrefix a0 a1 K
def Jstrings_TrimPrefix (X : (ByteArray) → (ByteArray) → ((ByteArray) → Prop) → Prop) : Inst := ⟨67, (.cons .str (.cons .str .nil)), .nil, (.cons .str .nil), .nil, fun x y K => X x.1 x.2.1 (fun u0 => K (u0, ()) ())⟩
def Istrings_TrimPrefix : Inst := Jstrings_TrimPrefix Xstrings_TrimPrefix
theorem Estrings_TrimPrefix (xinternal_stringslite_TrimPrefix : (ByteArray) → (ByteArray) → ((ByteArray) → Prop) → Prop) (x : PL.T (.cons .str (.cons .str .nil))) (y : PH.T .nil) (K : PL.T (.cons .str .nil) → PH.T .nil → Prop) : Ystrings_TrimPrefix xinternal_stringslite_TrimPrefix x.1 x.2.1 (fun u0 => K (u0, ()) ()) = bodyC (envP Tryz.prog 8 gives ⟨tabC [Jinternal_stringslite_TrimPrefix xinternal_stringslite_TrimPrefix], tabL []⟩) Tryz.f67 (Tryz.f67.body.getD .skip) (PL.enc (.cons .str (.cons .str .nil)) x) (PH.enc .nil y) (resK (.cons .str .nil) .nil K) := by kernel_rfl
theorem Istrings_TrimPrefix_ok : InstOk Tryz.prog G.1 Istrings_TrimPrefix := inst_ok (gives := gives) (is := [Iinternal_stringslite_TrimPrefix]) [] (okCons Iinternal_stringslite_TrimPrefix_ok okNil) 8 follows Tryz.func67 (by kernel_rfl) (fun x => by kernel_rfl) (fun x y K => Estrings_TrimPrefix Xinternal_stringslite_TrimPrefix x y K)

/- epact/rule.digits -/
def Lrule_digits_0 (K : (Int) → Prop) : ((ByteArray × Int × Unit × Unit) × ((ByteArray × Nat) × Unit) → Prop) → (ByteArray × Int × Unit × Unit) × ((ByteArray × Nat) × Unit) → Prop := fun k1 x2 =>
 (if x2.2.1.2 < ByteArray.size x2.2.1.1 then
 (if decide ((↑(Prod.fst (Go.Utf8.decode x2.2.1.1 x2.2.1.2)) : Int) < (48 : Int)) = true then
 K (↑(x2.2.1.2) : Int)
 else
 (if decide ((↑(Prod.fst (Go.Utf8.decode x2.2.1.1 x2.2.1.2)) : Int) > (57 : Int)) = true then
 K (↑(x2.2.1.2) : Int)
 else
 k1 ((x2.1.1, x2.1.2.1, (), ()), (x2.2.1.1, x2.2.1.2 + Prod.snd (Go.Utf8.decode x2.2.1.1 x2.2.1.2)), ())))
 else
 K (↑(ByteArray.size x2.1.1) : Int))
def Lrule_digits_0p : Lp := ⟨69, [.trim 69], (.cons 0 .str (.cons 2 (.int .i64) (.cons 6 (.it 160) .nil))), (.cons 160 .iter .nil), 0⟩
def Yrule_digits (a0 : ByteArray) (K : (Int) → Prop) : Prop :=
 lp (Lrule_digits_0 K) ((a0, (0 : Int), (), ()), (a0, (0 : Nat)), ())
def Xrule_digits (a0 : ByteArray) (K : (Int) → Prop) : Prop := Yrule_digits a0 K
def Jrule_digits (X : (ByteArray) → ((Int) → Prop) → Prop) : Inst := ⟨68, (.cons .str .nil), .nil, (.cons (.int .i64) .nil), .nil, fun x y K => X x.1 (fun u0 => K (u0, ()) ())⟩
def Irule_digits : Inst := Jrule_digits Xrule_digits
theorem Erule_digits (x : PL.T (.cons .str .nil)) (y : PH.T .nil) (K : PL.T (.cons (.int .i64) .nil) → PH.T .nil → Prop) : Yrule_digits x.1 (fun u0 => K (u0, ()) ()) = bodyC (envP Tryz.prog 20 gives ⟨tabC [], tabL [Lrule_digits_0p]⟩) Tryz.f68 (Tryz.f68.body.getD .skip) (PL.enc (.cons .str .nil) x) (PH.enc .nil y) (resK (.cons (.int .i64) .nil) .nil K) := by kernel_rfl
theorem Irule_digits_ok : InstOk Tryz.prog G.1 Irule_digits := inst_ok (gives := gives) (is := []) [Lrule_digits_0p] okNil 20 follows Tryz.func68 (by kernel_rfl) (fun x => by kernel_rfl) (fun x y K => Erule_digits x y K)

/- epact/rule.sixty -/
def Yrule_sixty (xrule_digits : (ByteArray) → ((Int) → Prop) → Prop) (xatoi : ByteArray → (Int → Go.Value → Prop) → Prop) (a0 : ByteArray) (K : (Int) → (ByteArray) → (Bool) → Prop) : Prop :=
 (if decide ((↑(ByteArray.size a0) : Int) < (3 : Int)) = true then
 K (0 : Int) a0 false
 else
 (if (0 : Int) ≤ (0 : Int) ∧ (0 : Int) < (↑(ByteArray.size a0) : Int) then
 (if (Eng.bAt a0 (0 : Nat) != (58 : Int)) = true then
 K (0 : Int) a0 false
 else
 (if (0 : Int) ≤ (↑(ByteArray.size a0) : Int) ∧ (↑(ByteArray.size a0) : Int) ≤ (↑(ByteArray.size a0) : Int) then
 (if (0 : Int) ≤ (1 : Int) ∧ (1 : Int) ≤ (↑(ByteArray.size a0) : Int) then
 xrule_digits (ByteArray.extract a0 (1 : Nat) (Int.toNat (↑(ByteArray.size a0) : Int))) (fun r1 =>
 (if decide (r1 < (2 : Int)) = true then
 K (0 : Int) a0 false
 else
 (if (0 : Int) ≤ (1 : Int) ∧ (1 : Int) < (↑(ByteArray.size a0) : Int) then
 (if decide (Eng.bAt a0 (1 : Nat) > (53 : Int)) = true then
 K (0 : Int) a0 false
 else
 (if (0 : Int) ≤ (3 : Int) ∧ (3 : Int) ≤ (↑(ByteArray.size a0) : Int) then
 xatoi (ByteArray.extract a0 (1 : Nat) (3 : Nat)) (fun r2 r3 =>
 (if (0 : Int) ≤ (↑(ByteArray.size a0) : Int) ∧ (↑(ByteArray.size a0) : Int) ≤ (↑(ByteArray.size a0) : Int) then
 (if (0 : Int) ≤ (3 : Int) ∧ (3 : Int) ≤ (↑(ByteArray.size a0) : Int) then
 K r2 (ByteArray.extract a0 (3 : Nat) (Int.toNat (↑(ByteArray.size a0) : Int))) true
 else
 False)
 else
 False))
 else
 False))
 else
 False)))
 else
 False)
 else
 False))
 else
 False))
def Xrule_sixty (a0 : ByteArray) (K : (Int) → (ByteArray) → (Bool) → Prop) : Prop := Yrule_sixty Xrule_digits Xatoi a0 K
def Jrule_sixty (X : (ByteArray) → ((Int) → (ByteArray) → (Bool) → Prop) → Prop) : Inst := ⟨70, (.cons .str .nil), .nil, (.cons (.int .i64) (.cons .str (.cons .bool .nil))), .nil, fun x y K => X x.1 (fun u0 u1 u2 => K (u0, (u1, (u2, ()))) ())⟩
def Irule_sixty : Inst := Jrule_sixty Xrule_sixty
theorem Erule_sixty (xrule_digits : (ByteArray) → ((Int) → Prop) → Prop) (xatoi : ByteArray → (Int → Go.Value → Prop) → Prop) (x : PL.T (.cons .str .nil)) (y : PH.T .nil) (K : PL.T (.cons (.int .i64) (.cons .str (.cons .bool .nil))) → PH.T .nil → Prop) : Yrule_sixty xrule_digits xatoi x.1 (fun u0 u1 u2 => K (u0, (u1, (u2, ()))) ()) = bodyC (envP Tryz.prog 34 gives ⟨tabC [Jrule_digits xrule_digits, Jatoi xatoi], tabL []⟩) Tryz.f70 (Tryz.f70.body.getD .skip) (PL.enc (.cons .str .nil) x) (PH.enc .nil y) (resK (.cons (.int .i64) (.cons .str (.cons .bool .nil))) .nil K) := by kernel_rfl
theorem Irule_sixty_ok : InstOk Tryz.prog G.1 Irule_sixty := inst_ok (gives := gives) (is := [Irule_digits, Iatoi]) [] (okCons Irule_digits_ok (okCons Iatoi_ok okNil)) 34 follows Tryz.func70 (by kernel_rfl) (fun x => by kernel_rfl) (fun x y K => Erule_sixty Xrule_digits Xatoi x y K)

/- epact/rule.more -/
def Yrule_more (xrule_sixty : (ByteArray) → ((Int) → (ByteArray) → (Bool) → Prop) → Prop) (a0 : ByteArray) (a1 : Bool) (K : (Int) → (ByteArray) → (Bool) → Prop) : Prop :=
 (if (!a1) = true then
 K (0 : Int) a0 false
 else
 xrule_sixty a0 (fun r2 r3 r4 =>
 K r2 r3 r4))
def Xrule_more (a0 : ByteArray) (a1 : Bool) (K : (Int) → (ByteArray) → (Bool) → Prop) : Prop := Yrule_more Xrule_sixty a0 a1 K
def Jrule_more (X : (ByteArray) → (Bool) → ((Int) → (ByteArray) → (Bool) → Prop) → Prop) : Inst := ⟨71, (.cons .str (.cons .bool .nil)), .nil, (.cons (.int .i64) (.cons .str (.cons .bool .nil))), .nil, fun x y K => X x.1 x.2.1 (fun u0 u1 u2 => K (u0, (u1, (u2, ()))) ())⟩
def Irule_more : Inst := Jrule_more Xrule_more
theorem Erule_more (xrule_sixty : (ByteArray) → ((Int) → (ByteArray) → (Bool) → Prop) → Prop) (x : PL.T (.cons .str (.cons .bool .nil))) (y : PH.T .nil) (K : PL.T (.cons (.int .i64) (.cons .str (.cons .bool .nil))) → PH.T .nil → Prop) : Yrule_more xrule_sixty x.1 x.2.1 (fun u0 u1 u2 => K (u0, (u1, (u2, ()))) ()) = bodyC (envP Tryz.prog 15 gives ⟨tabC [Jrule_sixty xrule_sixty], tabL []⟩) Tryz.f71 (Tryz.f71.body.getD .skip) (PL.enc (.cons .str (.cons .bool .nil)) x) (PH.enc .nil y) (resK (.cons (.int .i64) (.cons .str (.cons .bool .nil))) .nil K) := by kernel_rfl
theorem Irule_more_ok : InstOk Tryz.prog G.1 Irule_more := inst_ok (gives := gives) (is := [Irule_sixty]) [] (okCons Irule_sixty_ok okNil) 15 follows Tryz.func71 (by kernel_rfl) (fun x => by kernel_rfl) (fun x y K => Erule_more Xrule_sixty x y K)

/- epact/rule.Time -/
def Yrule_Time (xstrings_TrimPrefix : (ByteArray) → (ByteArray) → ((ByteArray) → Prop) → Prop) (xrule_digits : (ByteArray) → ((Int) → Prop) → Prop) (xatoi : ByteArray → (Int → Go.Value → Prop) → Prop) (xrule_sixty : (ByteArray) → ((Int) → (ByteArray) → (Bool) → Prop) → Prop) (xrule_more : (ByteArray) → (Bool) → ((Int) → (ByteArray) → (Bool) → Prop) → Prop) (a0 : ByteArray) (K : (Int) → (ByteArray) → (Bool) → Prop) : Prop :=
 xstrings_TrimPrefix a0 (ByteArray.mk #[(45 : UInt8)]) (fun r1 =>
 (if ((↑(ByteArray.size r1) : Int) == (↑(ByteArray.size a0) : Int)) = true then
 xstrings_TrimPrefix a0 (ByteArray.mk #[(43 : UInt8)]) (fun r2 =>
 xrule_digits r2 (fun r3 =>
 (if ((if (3 : Int) < r3 then (3 : Int) else r3) == (0 : Int)) = true then
 K (0 : Int) a0 false
 else
 (if ((0 : Int) ≤ if (3 : Int) < r3 then (3 : Int) else r3) ∧ (if (3 : Int) < r3 then (3 : Int) else r3) ≤ (↑(ByteArray.size r2) : Int) then
 (if (0 : Int) ≤ (0 : Int) ∧ (0 : Int) ≤ if (3 : Int) < r3 then (3 : Int) else r3 then
 xatoi (ByteArray.extract r2 (0 : Nat) (Int.toNat (if (3 : Int) < r3 then (3 : Int) else r3))) (fun r4 r5 =>
 (if decide (r4 > (167 : Int)) = true then
 (if (0 : Int) ≤ (↑(ByteArray.size r2) : Int) ∧ (↑(ByteArray.size r2) : Int) ≤ (↑(ByteArray.size r2) : Int) then
 (if (0 : Int) ≤ w64 ((if (3 : Int) < r3 then (3 : Int) else r3) - (1 : Int)) ∧ w64 ((if (3 : Int) < r3 then (3 : Int) else r3) - (1 : Int)) ≤ (↑(ByteArray.size r2) : Int) then
 (lt (ByteArray.extract r2 (Int.toNat (w64 ((if (3 : Int) < r3 then (3 : Int) else r3) - (1 : Int)))) (Int.toNat (↑(ByteArray.size r2) : Int))) fun v6 =>
 xrule_sixty v6 (fun r7 r8 r9 =>
 xrule_more r8 r9 (fun r10 r11 r12 =>
 (lt (w64 (w64 (Int.tdiv r4 (10 : Int)) * (3600 : Int))) fun v13 =>
 (lt (w64 (v13 + w64 (r7 * (60 : Int)))) fun v14 =>
 (lt (w64 ((1 : Int) * w64 (v14 + r10))) fun v15 =>
 K v15 r11 true))))))
 else
 False)
 else
 False)
 else
 (if (0 : Int) ≤ (↑(ByteArray.size r2) : Int) ∧ (↑(ByteArray.size r2) : Int) ≤ (↑(ByteArray.size r2) : Int) then
 (if ((0 : Int) ≤ if (3 : Int) < r3 then (3 : Int) else r3) ∧ (if (3 : Int) < r3 then (3 : Int) else r3) ≤ (↑(ByteArray.size r2) : Int) then
 xrule_sixty (ByteArray.extract r2 (Int.toNat (if (3 : Int) < r3 then (3 : Int) else r3)) (Int.toNat (↑(ByteArray.size r2) : Int))) (fun r16 r17 r18 =>
 xrule_more r17 r18 (fun r19 r20 r21 =>
 (lt (w64 (w64 (r4 * (3600 : Int)) + w64 (r16 * (60 : Int)))) fun v22 =>
 (lt (w64 ((1 : Int) * w64 (v22 + r19))) fun v23 =>
 K v23 r20 true))))
 else
 False)
 else
 False)))
 else
 False)
 else
 False))))
 else
 xrule_digits r1 (fun r24 =>
 (if ((if (3 : Int) < r24 then (3 : Int) else r24) == (0 : Int)) = true then
 K (0 : Int) a0 false
 else
 (if ((0 : Int) ≤ if (3 : Int) < r24 then (3 : Int) else r24) ∧ (if (3 : Int) < r24 then (3 : Int) else r24) ≤ (↑(ByteArray.size r1) : Int) then
 (if (0 : Int) ≤ (0 : Int) ∧ (0 : Int) ≤ if (3 : Int) < r24 then (3 : Int) else r24 then
 xatoi (ByteArray.extract r1 (0 : Nat) (Int.toNat (if (3 : Int) < r24 then (3 : Int) else r24))) (fun r25 r26 =>
 (if decide (r25 > (167 : Int)) = true then
 (if (0 : Int) ≤ (↑(ByteArray.size r1) : Int) ∧ (↑(ByteArray.size r1) : Int) ≤ (↑(ByteArray.size r1) : Int) then
 (if (0 : Int) ≤ w64 ((if (3 : Int) < r24 then (3 : Int) else r24) - (1 : Int)) ∧ w64 ((if (3 : Int) < r24 then (3 : Int) else r24) - (1 : Int)) ≤ (↑(ByteArray.size r1) : Int) then
 (lt (ByteArray.extract r1 (Int.toNat (w64 ((if (3 : Int) < r24 then (3 : Int) else r24) - (1 : Int)))) (Int.toNat (↑(ByteArray.size r1) : Int))) fun v27 =>
 xrule_sixty v27 (fun r28 r29 r30 =>
 xrule_more r29 r30 (fun r31 r32 r33 =>
 (lt (w64 (w64 (Int.tdiv r25 (10 : Int)) * (3600 : Int))) fun v34 =>
 (lt (w64 (v34 + w64 (r28 * (60 : Int)))) fun v35 =>
 (lt (w64 ((-1 : Int) * w64 (v35 + r31))) fun v36 =>
 K v36 r32 true))))))
 else
 False)
 else
 False)
 else
 (if (0 : Int) ≤ (↑(ByteArray.size r1) : Int) ∧ (↑(ByteArray.size r1) : Int) ≤ (↑(ByteArray.size r1) : Int) then
 (if ((0 : Int) ≤ if (3 : Int) < r24 then (3 : Int) else r24) ∧ (if (3 : Int) < r24 then (3 : Int) else r24) ≤ (↑(ByteArray.size r1) : Int) then
 xrule_sixty (ByteArray.extract r1 (Int.toNat (if (3 : Int) < r24 then (3 : Int) else r24)) (Int.toNat (↑(ByteArray.size r1) : Int))) (fun r37 r38 r39 =>
 xrule_more r38 r39 (fun r40 r41 r42 =>
 (lt (w64 (w64 (r25 * (3600 : Int)) + w64 (r37 * (60 : Int)))) fun v43 =>
 (lt (w64 ((-1 : Int) * w64 (v43 + r40))) fun v44 =>
 K v44 r41 true))))
 else
 False)
 else
 False)))
 else
 False)
 else
 False)))))
def Xrule_Time (a0 : ByteArray) (K : (Int) → (ByteArray) → (Bool) → Prop) : Prop := Yrule_Time Xstrings_TrimPrefix Xrule_digits Xatoi Xrule_sixty Xrule_more a0 K
def Jrule_Time (X : (ByteArray) → ((Int) → (ByteArray) → (Bool) → Prop) → Prop) : Inst := ⟨49, (.cons .str .nil), .nil, (.cons (.int .i64) (.cons .str (.cons .bool .nil))), .nil, fun x y K => X x.1 (fun u0 u1 u2 => K (u0, (u1, (u2, ()))) ())⟩
def Irule_Time : Inst := Jrule_Time Xrule_Time
theorem Erule_Time (xstrings_TrimPrefix : (ByteArray) → (ByteArray) → ((ByteArray) → Prop) → Prop) (xrule_digits : (ByteArray) → ((Int) → Prop) → Prop) (xatoi : ByteArray → (Int → Go.Value → Prop) → Prop) (xrule_sixty : (ByteArray) → ((Int) → (ByteArray) → (Bool) → Prop) → Prop) (xrule_more : (ByteArray) → (Bool) → ((Int) → (ByteArray) → (Bool) → Prop) → Prop) (x : PL.T (.cons .str .nil)) (y : PH.T .nil) (K : PL.T (.cons (.int .i64) (.cons .str (.cons .bool .nil))) → PH.T .nil → Prop) : Yrule_Time xstrings_TrimPrefix xrule_digits xatoi xrule_sixty xrule_more x.1 (fun u0 u1 u2 => K (u0, (u1, (u2, ()))) ()) = bodyC (envP Tryz.prog 68 gives ⟨tabC [Jstrings_TrimPrefix xstrings_TrimPrefix, Jrule_digits xrule_digits, Jatoi xatoi, Jrule_sixty xrule_sixty, Jrule_more xrule_more], tabL []⟩) Tryz.f49 (Tryz.f49.body.getD .skip) (PL.enc (.cons .str .nil) x) (PH.enc .nil y) (resK (.cons (.int .i64) (.cons .str (.cons .bool .nil))) .nil K) := by kernel_rfl
theorem Irule_Time_ok : InstOk Tryz.prog G.1 Irule_Time := inst_ok (gives := gives) (is := [Istrings_TrimPrefix, Irule_digits, Iatoi, Irule_sixty, Irule_more]) [] (okCons Istrings_TrimPrefix_ok (okCons Irule_digits_ok (okCons Iatoi_ok (okCons Irule_sixty_ok (okCons Irule_more_ok okNil))))) 68 follows Tryz.func49 (by kernel_rfl) (fun x => by kernel_rfl) (fun x y K => Erule_Time Xstrings_TrimPrefix Xrule_digits Xatoi Xrule_sixty Xrule_more x y K)

/- (*epact/foot.reader).usual -/
def Yfoot_reader_usual (xfoot_reader_name : (ByteArray) → (Int) → (Bool) → (ByteArray) → (Int) → (Bool) → (ByteArray) → (Bool) → (Int) → (Int) → (Int) → (Int) → (Int) → (Int) → (Int) → (Int) → (Int) → (Int) → ((ByteArray) → (Bool) → (ByteArray) → (Int) → (Bool) → (ByteArray) → (Int) → (Bool) → (ByteArray) → (Bool) → (Int) → (Int) → (Int) → (Int) → (Int) → (Int) → (Int) → (Int) → (Int) → (Int) → Prop) → Prop) (xrule_Time : (ByteArray) → ((Int) → (ByteArray) → (Bool) → Prop) → Prop) (a0 : ByteArray) (a1 : Int) (a2 : Bool) (a3 : ByteArray) (a4 : Int) (a5 : Bool) (a6 : ByteArray) (a7 : Bool) (a8 : Int) (a9 : Int) (a10 : Int) (a11 : Int) (a12 : Int) (a13 : Int) (a14 : Int) (a15 : Int) (a16 : Int) (a17 : Int) (K : (Bool) → (ByteArray) → (Int) → (Bool) → (ByteArray) → (Int) → (Bool) → (ByteArray) → (Bool) → (Int) → (Int) → (Int) → (Int) → (Int) → (Int) → (Int) → (Int) → (Int) → (Int) → Prop) : Prop :=
 xfoot_reader_name a0 a1 a2 a3 a4 a5 a6 a7 a8 a9 a10 a11 a12 a13 a14 a15 a16 a17 (fun r18 r19 r20 r21 r22 r23 r24 r25 r26 r27 r28 r29 r30 r31 r32 r33 r34 r35 r36 r37 =>
 xrule_Time r20 (fun r38 r39 r40 =>
 (if r19 = true then
 K r40 r39 (w64 ((0 : Int) - r38)) false r18 r24 r25 r26 r27 r28 r29 r30 r31 r32 r33 r34 r35 r36 r37
 else
 K false r39 (w64 ((0 : Int) - r38)) false r18 r24 r25 r26 r27 r28 r29 r30 r31 r32 r33 r34 r35 r36 r37)))
def Xfoot_reader_usual (a0 : ByteArray) (a1 : Int) (a2 : Bool) (a3 : ByteArray) (a4 : Int) (a5 : Bool) (a6 : ByteArray) (a7 : Bool) (a8 : Int) (a9 : Int) (a10 : Int) (a11 : Int) (a12 : Int) (a13 : Int) (a14 : Int) (a15 : Int) (a16 : Int) (a17 : Int) (K : (Bool) → (ByteArray) → (Int) → (Bool) → (ByteArray) → (Int) → (Bool) → (ByteArray) → (Bool) → (Int) → (Int) → (Int) → (Int) → (Int) → (Int) → (Int) → (Int) → (Int) → (Int) → Prop) : Prop := Yfoot_reader_usual Xfoot_reader_name Xrule_Time a0 a1 a2 a3 a4 a5 a6 a7 a8 a9 a10 a11 a12 a13 a14 a15 a16 a17 K
def Jfoot_reader_usual (X : (ByteArray) → (Int) → (Bool) → (ByteArray) → (Int) → (Bool) → (ByteArray) → (Bool) → (Int) → (Int) → (Int) → (Int) → (Int) → (Int) → (Int) → (Int) → (Int) → (Int) → ((Bool) → (ByteArray) → (Int) → (Bool) → (ByteArray) → (Int) → (Bool) → (ByteArray) → (Bool) → (Int) → (Int) → (Int) → (Int) → (Int) → (Int) → (Int) → (Int) → (Int) → (Int) → Prop) → Prop) : Inst := ⟨21, (.cons (.ptr 0 0) .nil), (.cons 0 (.cells [.str, .int .i64, .bool, .str, .int .i64, .bool, .str, .bool, .int .i64, .int .i64, .int .i64, .int .i64, .int .i64, .int .i64, .int .i64, .int .i64, .int .i64, .int .i64] (.cons .str (.cons (.int .i64) (.cons .bool (.cons .str (.cons (.int .i64) (.cons .bool (.cons .str (.cons .bool (.cons (.int .i64) (.cons (.int .i64) (.cons (.int .i64) (.cons (.int .i64) (.cons (.int .i64) (.cons (.int .i64) (.cons (.int .i64) (.cons (.int .i64) (.cons (.int .i64) (.cons (.int .i64) .nil))))))))))))))))))) .nil), (.cons .bool .nil), (.cons 0 (.cells [.str, .int .i64, .bool, .str, .int .i64, .bool, .str, .bool, .int .i64, .int .i64, .int .i64, .int .i64, .int .i64, .int .i64, .int .i64, .int .i64, .int .i64, .int .i64] (.cons .str (.cons (.int .i64) (.cons .bool (.cons .str (.cons (.int .i64) (.cons .bool (.cons .str (.cons .bool (.cons (.int .i64) (.cons (.int .i64) (.cons (.int .i64) (.cons (.int .i64) (.cons (.int .i64) (.cons (.int .i64) (.cons (.int .i64) (.cons (.int .i64) (.cons (.int .i64) (.cons (.int .i64) .nil))))))))))))))))))) .nil), fun x y K => X y.1.1 y.1.2.1 y.1.2.2.1 y.1.2.2.2.1 y.1.2.2.2.2.1 y.1.2.2.2.2.2.1 y.1.2.2.2.2.2.2.1 y.1.2.2.2.2.2.2.2.1 y.1.2.2.2.2.2.2.2.2.1 y.1.2.2.2.2.2.2.2.2.2.1 y.1.2.2.2.2.2.2.2.2.2.2.1 y.1.2.2.2.2.2.2.2.2.2.2.2.1 y.1.2.2.2.2.2.2.2.2.2.2.2.2.1 y.1.2.2.2.2.2.2.2.2.2.2.2.2.2.1 y.1.2.2.2.2.2.2.2.2.2.2.2.2.2.2.1 y.1.2.2.2.2.2.2.2.2.2.2.2.2.2.2.2.1 y.1.2.2.2.2.2.2.2.2.2.2.2.2.2.2.2.2.1 y.1.2.2.2.2.2.2.2.2.2.2.2.2.2.2.2.2.2.1 (fun u0 u1 u2 u3 u4 u5 u6 u7 u8 u9 u10 u11 u12 u13 u14 u15 u16 u17 u18 => K (u0, ()) ((u1, (u2, (u3, (u4, (u5, (u6, (u7, (u8, (u9, (u10, (u11, (u12, (u13, (u14, (u15, (u16, (u17, (u18, ())))))))))))))))))), ()))⟩
def Ifoot_reader_usual : Inst := Jfoot_reader_usual Xfoot_reader_usual
theorem Efoot_reader_usual (xfoot_reader_name : (ByteArray) → (Int) → (Bool) → (ByteArray) → (Int) → (Bool) → (ByteArray) → (Bool) → (Int) → (Int) → (Int) → (Int) → (Int) → (Int) → (Int) → (Int) → (Int) → (Int) → ((ByteArray) → (Bool) → (ByteArray) → (Int) → (Bool) → (ByteArray) → (Int) → (Bool) → (ByteArray) → (Bool) → (Int) → (Int) → (Int) → (Int) → (Int) → (Int) → (Int) → (Int) → (Int) → (Int) → Prop) → Prop) (xrule_Time : (ByteArray) → ((Int) → (ByteArray) → (Bool) → Prop) → Prop) (x : PL.T (.cons (.ptr 0 0) .nil)) (y : PH.T (.cons 0 (.cells [.str, .int .i64, .bool, .str, .int .i64, .bool, .str, .bool, .int .i64, .int .i64, .int .i64, .int .i64, .int .i64, .int .i64, .int .i64, .int .i64, .int .i64, .int .i64] (.cons .str (.cons (.int .i64) (.cons .bool (.cons .str (.cons (.int .i64) (.cons .bool (.cons .str (.cons .bool (.cons (.int .i64) (.cons (.int .i64) (.cons (.int .i64) (.cons (.int .i64) (.cons (.int .i64) (.cons (.int .i64) (.cons (.int .i64) (.cons (.int .i64) (.cons (.int .i64) (.cons (.int .i64) .nil))))))))))))))))))) .nil)) (K : PL.T (.cons .bool .nil) → PH.T (.cons 0 (.cells [.str, .int .i64, .bool, .str, .int .i64, .bool, .str, .bool, .int .i64, .int .i64, .int .i64, .int .i64, .int .i64, .int .i64, .int .i64, .int .i64, .int .i64, .int .i64] (.cons .str (.cons (.int .i64) (.cons .bool (.cons .str (.cons (.int .i64) (.cons .bool (.cons .str (.cons .bool (.cons (.int .i64) (.cons (.int .i64) (.cons (.int .i64) (.cons (.int .i64) (.cons (.int .i64) (.cons (.int .i64) (.cons (.int .i64) (.cons (.int .i64) (.cons (.int .i64) (.cons (.int .i64) .nil))))))))))))))))))) .nil) → Prop) : Yfoot_reader_usual xfoot_reader_name xrule_Time y.1.1 y.1.2.1 y.1.2.2.1 y.1.2.2.2.1 y.1.2.2.2.2.1 y.1.2.2.2.2.2.1 y.1.2.2.2.2.2.2.1 y.1.2.2.2.2.2.2.2.1 y.1.2.2.2.2.2.2.2.2.1 y.1.2.2.2.2.2.2.2.2.2.1 y.1.2.2.2.2.2.2.2.2.2.2.1 y.1.2.2.2.2.2.2.2.2.2.2.2.1 y.1.2.2.2.2.2.2.2.2.2.2.2.2.1 y.1.2.2.2.2.2.2.2.2.2.2.2.2.2.1 y.1.2.2.2.2.2.2.2.2.2.2.2.2.2.2.1 y.1.2.2.2.2.2.2.2.2.2.2.2.2.2.2.2.1 y.1.2.2.2.2.2.2.2.2.2.2.2.2.2.2.2.2.1 y.1.2.2.2.2.2.2.2.2.2.2.2.2.2.2.2.2.2.1 (fun u0 u1 u2 u3 u4 u5 u6 u7 u8 u9 u10 u11 u12 u13 u14 u15 u16 u17 u18 => K (u0, ()) ((u1, (u2, (u3, (u4, (u5, (u6, (u7, (u8, (u9, (u10, (u11, (u12, (u13, (u14, (u15, (u16, (u17, (u18, ())))))))))))))))))), ())) = bodyC (envP Tryz.prog 38 gives ⟨tabC [Jfoot_reader_name xfoot_reader_name, Jrule_Time xrule_Time], tabL []⟩) Tryz.f21 (Tryz.f21.body.getD .skip) (PL.enc (.cons (.ptr 0 0) .nil) x) (PH.enc (.cons 0 (.cells [.str, .int .i64, .bool, .str, .int .i64, .bool, .str, .bool, .int .i64, .int .i64, .int .i64, .int .i64, .int .i64, .int .i64, .int .i64, .int .i64, .int .i64, .int .i64] (.cons .str (.cons (.int .i64) (.cons .bool (.cons .str (.cons (.int .i64) (.cons .bool (.cons .str (.cons .bool (.cons (.int .i64) (.cons (.int .i64) (.cons (.int .i64) (.cons (.int .i64) (.cons (.int .i64) (.cons (.int .i64) (.cons (.int .i64) (.cons (.int .i64) (.cons (.int .i64) (.cons (.int .i64) .nil))))))))))))))))))) .nil) y) (resK (.cons .bool .nil) (.cons 0 (.cells [.str, .int .i64, .bool, .str, .int .i64, .bool, .str, .bool, .int .i64, .int .i64, .int .i64, .int .i64, .int .i64, .int .i64, .int .i64, .int .i64, .int .i64, .int .i64] (.cons .str (.cons (.int .i64) (.cons .bool (.cons .str (.cons (.int .i64) (.cons .bool (.cons .str (.cons .bool (.cons (.int .i64) (.cons (.int .i64) (.cons (.int .i64) (.cons (.int .i64) (.cons (.int .i64) (.cons (.int .i64) (.cons (.int .i64) (.cons (.int .i64) (.cons (.int .i64) (.cons (.int .i64) .nil))))))))))))))))))) .nil) K) := by kernel_rfl
theorem Ifoot_reader_usual_ok : InstOk Tryz.prog G.1 Ifoot_reader_usual := inst_ok (gives := gives) (is := [Ifoot_reader_name, Irule_Time]) [] (okCons Ifoot_reader_name_ok (okCons Irule_Time_ok okNil)) 38 follows Tryz.func21 (by kernel_rfl) (fun x => by kernel_rfl) (fun x y K => Efoot_reader_usual Xfoot_reader_name Xrule_Time x y K)

/- epact/foot.kind -/
def Yfoot_kind (xabbr_Right : (ByteArray) → ((Bool) → Prop) → Prop) (a0 : Int × Bool × ByteArray × Unit) (a1 : Bool) (K : (Bool) → Prop) : Prop :=
 xabbr_Right a0.2.2.1 (fun r2 =>
 (if r2 = true then
 (if (a0.2.1 == a1) = true then
 (if decide (a0.1 ≥ (-89999 : Int)) = true then
 K (decide (a0.1 ≤ (89999 : Int)))
 else
 K false)
 else
 K false)
 else
 K false))
def Xfoot_kind (a0 : Int × Bool × ByteArray × Unit) (a1 : Bool) (K : (Bool) → Prop) : Prop := Yfoot_kind Xabbr_Right a0 a1 K
def Jfoot_kind (X : (Int × Bool × ByteArray × Unit) → (Bool) → ((Bool) → Prop) → Prop) : Inst := ⟨31, (.cons (.agg (.cons (.int .i64) (.cons .bool (.cons .str .nil)))) (.cons .bool .nil)), .nil, (.cons .bool .nil), .nil, fun x y K => X x.1 x.2.1 (fun u0 => K (u0, ()) ())⟩
def Ifoot_kind : Inst := Jfoot_kind Xfoot_kind
theorem Efoot_kind (xabbr_Right : (ByteArray) → ((Bool) → Prop) → Prop) (x : PL.T (.cons (.agg (.cons (.int .i64) (.cons .bool (.cons .str .nil)))) (.cons .bool .nil))) (y : PH.T .nil) (K : PL.T (.cons .bool .nil) → PH.T .nil → Prop) : Yfoot_kind xabbr_Right x.1 x.2.1 (fun u0 => K (u0, ()) ()) = bodyC (envP Tryz.prog 24 gives ⟨tabC [Jabbr_Right xabbr_Right], tabL []⟩) Tryz.f31 (Tryz.f31.body.getD .skip) (PL.enc (.cons (.agg (.cons (.int .i64) (.cons .bool (.cons .str .nil)))) (.cons .bool .nil)) x) (PH.enc .nil y) (resK (.cons .bool .nil) .nil K) := by kernel_rfl
theorem Ifoot_kind_ok : InstOk Tryz.prog G.1 Ifoot_kind := inst_ok (gives := gives) (is := [Iabbr_Right]) [] (okCons Iabbr_Right_ok okNil) 24 follows Tryz.func31 (by kernel_rfl) (fun x => by kernel_rfl) (fun x y K => Efoot_kind Xabbr_Right x y K)

/- epact/rule.within -/
def Yrule_within (a0 : Int) (a1 : Int) (a2 : Int) (K : (Bool) → Prop) : Prop :=
 (if decide (a0 ≥ a1) = true then
 K (decide (a0 ≤ a2))
 else
 K false)
def Xrule_within (a0 : Int) (a1 : Int) (a2 : Int) (K : (Bool) → Prop) : Prop := Yrule_within a0 a1 a2 K
def Jrule_within (X : (Int) → (Int) → (Int) → ((Bool) → Prop) → Prop) : Inst := ⟨40, (.cons (.int .i64) (.cons (.int .i64) (.cons (.int .i64) .nil))), .nil, (.cons .bool .nil), .nil, fun x y K => X x.1 x.2.1 x.2.2.1 (fun u0 => K (u0, ()) ())⟩
def Irule_within : Inst := Jrule_within Xrule_within
theorem Erule_within (x : PL.T (.cons (.int .i64) (.cons (.int .i64) (.cons (.int .i64) .nil)))) (y : PH.T .nil) (K : PL.T (.cons .bool .nil) → PH.T .nil → Prop) : Yrule_within x.1 x.2.1 x.2.2.1 (fun u0 => K (u0, ()) ()) = bodyC (envP Tryz.prog 15 gives ⟨tabC [], tabL []⟩) Tryz.f40 (Tryz.f40.body.getD .skip) (PL.enc (.cons (.int .i64) (.cons (.int .i64) (.cons (.int .i64) .nil))) x) (PH.enc .nil y) (resK (.cons .bool .nil) .nil K) := by kernel_rfl
theorem Irule_within_ok : InstOk Tryz.prog G.1 Irule_within := inst_ok (gives := gives) (is := []) [] okNil 15 follows Tryz.func40 (by kernel_rfl) (fun x => by kernel_rfl) (fun x y K => Erule_within x y K)

/- epact/rule.Right -/
def Yrule_Right (xrule_within : (Int) → (Int) → (Int) → ((Bool) → Prop) → Prop) (a0 : Int × Int × Int × Int × Int × Unit) (K : (Bool) → Prop) : Prop :=
 xrule_within a0.2.2.2.2.1 (-604799 : Int) (604799 : Int) (fun r1 =>
 (if (a0.1 == (0 : Int)) = true then
 (if r1 = true then
 xrule_within a0.2.1 (1 : Int) (12 : Int) (fun r2 =>
 (if r2 = true then
 xrule_within a0.2.2.1 (1 : Int) (5 : Int) (fun r3 =>
 (if r3 = true then
 xrule_within a0.2.2.2.1 (0 : Int) (6 : Int) (fun r4 =>
 K r4)
 else
 K false))
 else
 K false))
 else
 K false)
 else
 (if (a0.1 == (1 : Int)) = true then
 (if r1 = true then
 (if decide (a0.2.1 > (0 : Int)) = true then
 xrule_within a0.2.1 (0 : Int) (365 : Int) (fun r5 =>
 (if r5 = true then
 (if (a0.2.2.1 == (0 : Int)) = true then
 K (a0.2.2.2.1 == (0 : Int))
 else
 K false)
 else
 K false))
 else
 K false)
 else
 K false)
 else
 (if (a0.1 == (2 : Int)) = true then
 (if r1 = true then
 xrule_within a0.2.1 (0 : Int) (365 : Int) (fun r6 =>
 (if r6 = true then
 (if (a0.2.2.1 == (0 : Int)) = true then
 K (a0.2.2.2.1 == (0 : Int))
 else
 K false)
 else
 K false))
 else
 K false)
 else
 K false))))
def Xrule_Right (a0 : Int × Int × Int × Int × Int × Unit) (K : (Bool) → Prop) : Prop := Yrule_Right Xrule_within a0 K
def Jrule_Right (X : (Int × Int × Int × Int × Int × Unit) → ((Bool) → Prop) → Prop) : Inst := ⟨32, (.cons (.agg (.cons (.int .i64) (.cons (.int .i64) (.cons (.int .i64) (.cons (.int .i64) (.cons (.int .i64) .nil)))))) .nil), .nil, (.cons .bool .nil), .nil, fun x y K => X x.1 (fun u0 => K (u0, ()) ())⟩
def Irule_Right : Inst := Jrule_Right Xrule_Right
theorem Erule_Right (xrule_within : (Int) → (Int) → (Int) → ((Bool) → Prop) → Prop) (x : PL.T (.cons (.agg (.cons (.int .i64) (.cons (.int .i64) (.cons (.int .i64) (.cons (.int .i64) (.cons (.int .i64) .nil)))))) .nil)) (y : PH.T .nil) (K : PL.T (.cons .bool .nil) → PH.T .nil → Prop) : Yrule_Right xrule_within x.1 (fun u0 => K (u0, ()) ()) = bodyC (envP Tryz.prog 53 gives ⟨tabC [Jrule_within xrule_within], tabL []⟩) Tryz.f32 (Tryz.f32.body.getD .skip) (PL.enc (.cons (.agg (.cons (.int .i64) (.cons (.int .i64) (.cons (.int .i64) (.cons (.int .i64) (.cons (.int .i64) .nil)))))) .nil) x) (PH.enc .nil y) (resK (.cons .bool .nil) .nil K) := by kernel_rfl
theorem Irule_Right_ok : InstOk Tryz.prog G.1 Irule_Right := inst_ok (gives := gives) (is := [Irule_within]) [] (okCons Irule_within_ok okNil) 53 follows Tryz.func32 (by kernel_rfl) (fun x => by kernel_rfl) (fun x y K => Erule_Right Xrule_within x y K)

/- epact/foot.Right -/
def Yfoot_Right (xfoot_kind : (Int × Bool × ByteArray × Unit) → (Bool) → ((Bool) → Prop) → Prop) (xrule_Right : (Int × Int × Int × Int × Int × Unit) → ((Bool) → Prop) → Prop) (a0 : Int × Bool × ByteArray × Int × Bool × ByteArray × Bool × Int × Int × Int × Int × Int × Int × Int × Int × Int × Int × Unit) (K : (Bool) → Prop) : Prop :=
 xfoot_kind (a0.1, a0.2.1, a0.2.2.1, ()) false (fun r1 =>
 (if (!r1) = true then
 K false
 else
 (if a0.2.2.2.2.2.2.1 = true then
 xfoot_kind (a0.2.2.2.1, a0.2.2.2.2.1, a0.2.2.2.2.2.1, ()) true (fun r2 =>
 (if r2 = true then
 xrule_Right (a0.2.2.2.2.2.2.2.1, a0.2.2.2.2.2.2.2.2.1, a0.2.2.2.2.2.2.2.2.2.1, a0.2.2.2.2.2.2.2.2.2.2.1, a0.2.2.2.2.2.2.2.2.2.2.2.1, ()) (fun r3 =>
 (if r3 = true then
 xrule_Right a0.2.2.2.2.2.2.2.2.2.2.2.2 (fun r4 =>
 K r4)
 else
 K false))
 else
 K false))
 else
 (lt (a0.1 == a0.1 && (a0.2.1 == a0.2.1 && (ByteArray.toList a0.2.2.1 == ByteArray.toList a0.2.2.1 && true)) && (a0.2.2.2.1 == (0 : Int) && (a0.2.2.2.2.1 == false && (ByteArray.toList a0.2.2.2.2.2.1 == ByteArray.toList (ByteArray.mk #[]) && true)) && (a0.2.2.2.2.2.2.1 == false && (a0.2.2.2.2.2.2.2.1 == (0 : Int) && (a0.2.2.2.2.2.2.2.2.1 == (0 : Int) && (a0.2.2.2.2.2.2.2.2.2.1 == (0 : Int) && (a0.2.2.2.2.2.2.2.2.2.2.1 == (0 : Int) && (a0.2.2.2.2.2.2.2.2.2.2.2.1 == (0 : Int) && true)))) && (a0.2.2.2.2.2.2.2.2.2.2.2.2.1 == (0 : Int) && (a0.2.2.2.2.2.2.2.2.2.2.2.2.2.1 == (0 : Int) && (a0.2.2.2.2.2.2.2.2.2.2.2.2.2.2.1 == (0 : Int) && (a0.2.2.2.2.2.2.2.2.2.2.2.2.2.2.2.1 == (0 : Int) && (a0.2.2.2.2.2.2.2.2.2.2.2.2.2.2.2.2.1 == (0 : Int) && true)))) && true))))) fun v5 =>
 K v5))))
def Xfoot_Right (a0 : Int × Bool × ByteArray × Int × Bool × ByteArray × Bool × Int × Int × Int × Int × Int × Int × Int × Int × Int × Int × Unit) (K : (Bool) → Prop) : Prop := Yfoot_Right Xfoot_kind Xrule_Right a0 K
def Jfoot_Right (X : (Int × Bool × ByteArray × Int × Bool × ByteArray × Bool × Int × Int × Int × Int × Int × Int × Int × Int × Int × Int × Unit) → ((Bool) → Prop) → Prop) : Inst := ⟨11, (.cons (.agg (.cons (.int .i64) (.cons .bool (.cons .str (.cons (.int .i64) (.cons .bool (.cons .str (.cons .bool (.cons (.int .i64) (.cons (.int .i64) (.cons (.int .i64) (.cons (.int .i64) (.cons (.int .i64) (.cons (.int .i64) (.cons (.int .i64) (.cons (.int .i64) (.cons (.int .i64) (.cons (.int .i64) .nil)))))))))))))))))) .nil), .nil, (.cons .bool .nil), .nil, fun x y K => X x.1 (fun u0 => K (u0, ()) ())⟩
def Ifoot_Right : Inst := Jfoot_Right Xfoot_Right
theorem Efoot_Right (xfoot_kind : (Int × Bool × ByteArray × Unit) → (Bool) → ((Bool) → Prop) → Prop) (xrule_Right : (Int × Int × Int × Int × Int × Unit) → ((Bool) → Prop) → Prop) (x : PL.T (.cons (.agg (.cons (.int .i64) (.cons .bool (.cons .str (.cons (.int .i64) (.cons .bool (.cons .str (.cons .bool (.cons (.int .i64) (.cons (.int .i64) (.cons (.int .i64) (.cons (.int .i64) (.cons (.int .i64) (.cons (.int .i64) (.cons (.int .i64) (.cons (.int .i64) (.cons (.int .i64) (.cons (.int .i64) .nil)))))))))))))))))) .nil)) (y : PH.T .nil) (K : PL.T (.cons .bool .nil) → PH.T .nil → Prop) : Yfoot_Right xfoot_kind xrule_Right x.1 (fun u0 => K (u0, ()) ()) = bodyC (envP Tryz.prog 27 gives ⟨tabC [Jfoot_kind xfoot_kind, Jrule_Right xrule_Right], tabL []⟩) Tryz.f11 (Tryz.f11.body.getD .skip) (PL.enc (.cons (.agg (.cons (.int .i64) (.cons .bool (.cons .str (.cons (.int .i64) (.cons .bool (.cons .str (.cons .bool (.cons (.int .i64) (.cons (.int .i64) (.cons (.int .i64) (.cons (.int .i64) (.cons (.int .i64) (.cons (.int .i64) (.cons (.int .i64) (.cons (.int .i64) (.cons (.int .i64) (.cons (.int .i64) .nil)))))))))))))))))) .nil) x) (PH.enc .nil y) (resK (.cons .bool .nil) .nil K) := by kernel_rfl
theorem Ifoot_Right_ok : InstOk Tryz.prog G.1 Ifoot_Right := inst_ok (gives := gives) (is := [Ifoot_kind, Irule_Right]) [] (okCons Ifoot_kind_ok (okCons Irule_Right_ok okNil)) 27 follows Tryz.func11 (by kernel_rfl) (fun x => by kernel_rfl) (fun x y K => Efoot_Right Xfoot_kind Xrule_Right x y K)

/- (*epact/foot.reader).summer -/
def Yfoot_reader_summer (xfoot_reader_name : (ByteArray) → (Int) → (Bool) → (ByteArray) → (Int) → (Bool) → (ByteArray) → (Bool) → (Int) → (Int) → (Int) → (Int) → (Int) → (Int) → (Int) → (Int) → (Int) → (Int) → ((ByteArray) → (Bool) → (ByteArray) → (Int) → (Bool) → (ByteArray) → (Int) → (Bool) → (ByteArray) → (Bool) → (Int) → (Int) → (Int) → (Int) → (Int) → (Int) → (Int) → (Int) → (Int) → (Int) → Prop) → Prop) (xrule_Time : (ByteArray) → ((Int) → (ByteArray) → (Bool) → Prop) → Prop) (a0 : ByteArray) (a1 : Int) (a2 : Bool) (a3 : ByteArray) (a4 : Int) (a5 : Bool) (a6 : ByteArray) (a7 : Bool) (a8 : Int) (a9 : Int) (a10 : Int) (a11 : Int) (a12 : Int) (a13 : Int) (a14 : Int) (a15 : Int) (a16 : Int) (a17 : Int) (K : (Bool) → (ByteArray) → (Int) → (Bool) → (ByteArray) → (Int) → (Bool) → (ByteArray) → (Bool) → (Int) → (Int) → (Int) → (Int) → (Int) → (Int) → (Int) → (Int) → (Int) → (Int) → Prop) : Prop :=
 xfoot_reader_name a0 a1 a2 a3 a4 a5 a6 a7 a8 a9 a10 a11 a12 a13 a14 a15 a16 a17 (fun r18 r19 r20 r21 r22 r23 r24 r25 r26 r27 r28 r29 r30 r31 r32 r33 r34 r35 r36 r37 =>
 xrule_Time r20 (fun r38 r39 r40 =>
 (if r40 = true then
 K r19 r39 r21 r22 r23 (w64 ((0 : Int) - r38)) true r18 true r28 r29 r30 r31 r32 r33 r34 r35 r36 r37
 else
 K r19 r20 r21 r22 r23 (w64 (r21 + (3600 : Int))) true r18 true r28 r29 r30 r31 r32 r33 r34 r35 r36 r37)))
def Xfoot_reader_summer (a0 : ByteArray) (a1 : Int) (a2 : Bool) (a3 : ByteArray) (a4 : Int) (a5 : Bool) (a6 : ByteArray) (a7 : Bool) (a8 : Int) (a9 : Int) (a10 : Int) (a11 : Int) (a12 : Int) (a13 : Int) (a14 : Int) (a15 : Int) (a16 : Int) (a17 : Int) (K : (Bool) → (ByteArray) → (Int) → (Bool) → (ByteArray) → (Int) → (Bool) → (ByteArray) → (Bool) → (Int) → (Int) → (Int) → (Int) → (Int) → (Int) → (Int) → (Int) → (Int) → (Int) → Prop) : Prop := Yfoot_reader_summer Xfoot_reader_name Xrule_Time a0 a1 a2 a3 a4 a5 a6 a7 a8 a9 a10 a11 a12 a13 a14 a15 a16 a17 K
def Jfoot_reader_summer (X : (ByteArray) → (Int) → (Bool) → (ByteArray) → (Int) → (Bool) → (ByteArray) → (Bool) → (Int) → (Int) → (Int) → (Int) → (Int) → (Int) → (Int) → (Int) → (Int) → (Int) → ((Bool) → (ByteArray) → (Int) → (Bool) → (ByteArray) → (Int) → (Bool) → (ByteArray) → (Bool) → (Int) → (Int) → (Int) → (Int) → (Int) → (Int) → (Int) → (Int) → (Int) → (Int) → Prop) → Prop) : Inst := ⟨22, (.cons (.ptr 0 0) .nil), (.cons 0 (.cells [.str, .int .i64, .bool, .str, .int .i64, .bool, .str, .bool, .int .i64, .int .i64, .int .i64, .int .i64, .int .i64, .int .i64, .int .i64, .int .i64, .int .i64, .int .i64] (.cons .str (.cons (.int .i64) (.cons .bool (.cons .str (.cons (.int .i64) (.cons .bool (.cons .str (.cons .bool (.cons (.int .i64) (.cons (.int .i64) (.cons (.int .i64) (.cons (.int .i64) (.cons (.int .i64) (.cons (.int .i64) (.cons (.int .i64) (.cons (.int .i64) (.cons (.int .i64) (.cons (.int .i64) .nil))))))))))))))))))) .nil), (.cons .bool .nil), (.cons 0 (.cells [.str, .int .i64, .bool, .str, .int .i64, .bool, .str, .bool, .int .i64, .int .i64, .int .i64, .int .i64, .int .i64, .int .i64, .int .i64, .int .i64, .int .i64, .int .i64] (.cons .str (.cons (.int .i64) (.cons .bool (.cons .str (.cons (.int .i64) (.cons .bool (.cons .str (.cons .bool (.cons (.int .i64) (.cons (.int .i64) (.cons (.int .i64) (.cons (.int .i64) (.cons (.int .i64) (.cons (.int .i64) (.cons (.int .i64) (.cons (.int .i64) (.cons (.int .i64) (.cons (.int .i64) .nil))))))))))))))))))) .nil), fun x y K => X y.1.1 y.1.2.1 y.1.2.2.1 y.1.2.2.2.1 y.1.2.2.2.2.1 y.1.2.2.2.2.2.1 y.1.2.2.2.2.2.2.1 y.1.2.2.2.2.2.2.2.1 y.1.2.2.2.2.2.2.2.2.1 y.1.2.2.2.2.2.2.2.2.2.1 y.1.2.2.2.2.2.2.2.2.2.2.1 y.1.2.2.2.2.2.2.2.2.2.2.2.1 y.1.2.2.2.2.2.2.2.2.2.2.2.2.1 y.1.2.2.2.2.2.2.2.2.2.2.2.2.2.1 y.1.2.2.2.2.2.2.2.2.2.2.2.2.2.2.1 y.1.2.2.2.2.2.2.2.2.2.2.2.2.2.2.2.1 y.1.2.2.2.2.2.2.2.2.2.2.2.2.2.2.2.2.1 y.1.2.2.2.2.2.2.2.2.2.2.2.2.2.2.2.2.2.1 (fun u0 u1 u2 u3 u4 u5 u6 u7 u8 u9 u10 u11 u12 u13 u14 u15 u16 u17 u18 => K (u0, ()) ((u1, (u2, (u3, (u4, (u5, (u6, (u7, (u8, (u9, (u10, (u11, (u12, (u13, (u14, (u15, (u16, (u17, (u18, ())))))))))))))))))), ()))⟩
def Ifoot_reader_summer : Inst := Jfoot_reader_summer Xfoot_reader_summer
theorem Efoot_reader_summer (xfoot_reader_name : (ByteArray) → (Int) → (Bool) → (ByteArray) → (Int) → (Bool) → (ByteArray) → (Bool) → (Int) → (Int) → (Int) → (Int) → (Int) → (Int) → (Int) → (Int) → (Int) → (Int) → ((ByteArray) → (Bool) → (ByteArray) → (Int) → (Bool) → (ByteArray) → (Int) → (Bool) → (ByteArray) → (Bool) → (Int) → (Int) → (Int) → (Int) → (Int) → (Int) → (Int) → (Int) → (Int) → (Int) → Prop) → Prop) (xrule_Time : (ByteArray) → ((Int) → (ByteArray) → (Bool) → Prop) → Prop) (x : PL.T (.cons (.ptr 0 0) .nil)) (y : PH.T (.cons 0 (.cells [.str, .int .i64, .bool, .str, .int .i64, .bool, .str, .bool, .int .i64, .int .i64, .int .i64, .int .i64, .int .i64, .int .i64, .int .i64, .int .i64, .int .i64, .int .i64] (.cons .str (.cons (.int .i64) (.cons .bool (.cons .str (.cons (.int .i64) (.cons .bool (.cons .str (.cons .bool (.cons (.int .i64) (.cons (.int .i64) (.cons (.int .i64) (.cons (.int .i64) (.cons (.int .i64) (.cons (.int .i64) (.cons (.int .i64) (.cons (.int .i64) (.cons (.int .i64) (.cons (.int .i64) .nil))))))))))))))))))) .nil)) (K : PL.T (.cons .bool .nil) → PH.T (.cons 0 (.cells [.str, .int .i64, .bool, .str, .int .i64, .bool, .str, .bool, .int .i64, .int .i64, .int .i64, .int .i64, .int .i64, .int .i64, .int .i64, .int .i64, .int .i64, .int .i64] (.cons .str (.cons (.int .i64) (.cons .bool (.cons .str (.cons (.int .i64) (.cons .bool (.cons .str (.cons .bool (.cons (.int .i64) (.cons (.int .i64) (.cons (.int .i64) (.cons (.int .i64) (.cons (.int .i64) (.cons (.int .i64) (.cons (.int .i64) (.cons (.int .i64) (.cons (.int .i64) (.cons (.int .i64) .nil))))))))))))))))))) .nil) → Prop) : Yfoot_reader_summer xfoot_reader_name xrule_Time y.1.1 y.1.2.1 y.1.2.2.1 y.1.2.2.2.1 y.1.2.2.2.2.1 y.1.2.2.2.2.2.1 y.1.2.2.2.2.2.2.1 y.1.2.2.2.2.2.2.2.1 y.1.2.2.2.2.2.2.2.2.1 y.1.2.2.2.2.2.2.2.2.2.1 y.1.2.2.2.2.2.2.2.2.2.2.1 y.1.2.2.2.2.2.2.2.2.2.2.2.1 y.1.2.2.2.2.2.2.2.2.2.2.2.2.1 y.1.2.2.2.2.2.2.2.2.2.2.2.2.2.1 y.1.2.2.2.2.2.2.2.2.2.2.2.2.2.2.1 y.1.2.2.2.2.2.2.2.2.2.2.2.2.2.2.2.1 y.1.2.2.2.2.2.2.2.2.2.2.2.2.2.2.2.2.1 y.1.2.2.2.2.2.2.2.2.2.2.2.2.2.2.2.2.2.1 (fun u0 u1 u2 u3 u4 u5 u6 u7 u8 u9 u10 u11 u12 u13 u14 u15 u16 u17 u18 => K (u0, ()) ((u1, (u2, (u3, (u4, (u5, (u6, (u7, (u8, (u9, (u10, (u11, (u12, (u13, (u14, (u15, (u16, (u17, (u18, ())))))))))))))))))), ())) = bodyC (envP Tryz.prog 50 gives ⟨tabC [Jfoot_reader_name xfoot_reader_name, Jrule_Time xrule_Time], tabL []⟩) Tryz.f22 (Tryz.f22.body.getD .skip) (PL.enc (.cons (.ptr 0 0) .nil) x) (PH.enc (.cons 0 (.cells [.str, .int .i64, .bool, .str, .int .i64, .bool, .str, .bool, .int .i64, .int .i64, .int .i64, .int .i64, .int .i64, .int .i64, .int .i64, .int .i64, .int .i64, .int .i64] (.cons .str (.cons (.int .i64) (.cons .bool (.cons .str (.cons (.int .i64) (.cons .bool (.cons .str (.cons .bool (.cons (.int .i64) (.cons (.int .i64) (.cons (.int .i64) (.cons (.int .i64) (.cons (.int .i64) (.cons (.int .i64) (.cons (.int .i64) (.cons (.int .i64) (.cons (.int .i64) (.cons (.int .i64) .nil))))))))))))))))))) .nil) y) (resK (.cons .bool .nil) (.cons 0 (.cells [.str, .int .i64, .bool, .str, .int .i64, .bool, .str, .bool, .int .i64, .int .i64, .int .i64, .int .i64, .int .i64, .int .i64, .int .i64, .int .i64, .int .i64, .int .i64] (.cons .str (.cons (.int .i64) (.cons .bool (.cons .str (.cons (.int .i64) (.cons .bool (.cons .str (.cons .bool (.cons (.int .i64) (.cons (.int .i64) (.cons (.int .i64) (.cons (.int .i64) (.cons (.int .i64) (.cons (.int .i64) (.cons (.int .i64) (.cons (.int .i64) (.cons (.int .i64) (.cons (.int .i64) .nil))))))))))))))))))) .nil) K) := by kernel_rfl
theorem Ifoot_reader_summer_ok : InstOk Tryz.prog G.1 Ifoot_reader_summer := inst_ok (gives := gives) (is := [Ifoot_reader_name, Irule_Time]) [] (okCons Ifoot_reader_name_ok (okCons Irule_Time_ok okNil)) 50 follows Tryz.func22 (by kernel_rfl) (fun x => by kernel_rfl) (fun x y K => Efoot_reader_summer Xfoot_reader_name Xrule_Time x y K)

/- epact/rule.number -/
def Yrule_number (xrule_digits : (ByteArray) → ((Int) → Prop) → Prop) (xatoi : ByteArray → (Int → Go.Value → Prop) → Prop) (a0 : ByteArray) (a1 : Int) (K : (Int) → (ByteArray) → (Bool) → Prop) : Prop :=
 xrule_digits a0 (fun r2 =>
 (if (r2 == (0 : Int)) = true then
 K (0 : Int) a0 false
 else
 (if decide (r2 > a1) = true then
 K (0 : Int) a0 false
 else
 (if (0 : Int) ≤ r2 ∧ r2 ≤ (↑(ByteArray.size a0) : Int) then
 (if (0 : Int) ≤ (0 : Int) ∧ (0 : Int) ≤ r2 then
 xatoi (ByteArray.extract a0 (0 : Nat) (Int.toNat r2)) (fun r3 r4 =>
 (if (0 : Int) ≤ (↑(ByteArray.size a0) : Int) ∧ (↑(ByteArray.size a0) : Int) ≤ (↑(ByteArray.size a0) : Int) then
 (if (0 : Int) ≤ r2 ∧ r2 ≤ (↑(ByteArray.size a0) : Int) then
 K r3 (ByteArray.extract a0 (Int.toNat r2) (Int.toNat (↑(ByteArray.size a0) : Int))) true
 else
 False)
 else
 False))
 else
 False)
 else
 False))))
def Xrule_number (a0 : ByteArray) (a1 : Int) (K : (Int) → (ByteArray) → (Bool) → Prop) : Prop := Yrule_number Xrule_digits Xatoi a0 a1 K
def Jrule_number (X : (ByteArray) → (Int) → ((Int) → (ByteArray) → (Bool) → Prop) → Prop) : Inst := ⟨105, (.cons .str (.cons (.int .i64) .nil)), .nil, (.cons (.int .i64) (.cons .str (.cons .bool .nil))), .nil, fun x y K => X x.1 x.2.1 (fun u0 u1 u2 => K (u0, (u1, (u2, ()))) ())⟩
def Irule_number : Inst := Jrule_number Xrule_number
theorem Erule_number (xrule_digits : (ByteArray) → ((Int) → Prop) → Prop) (xatoi : ByteArray → (Int → Go.Value → Prop) → Prop) (x : PL.T (.cons .str (.cons (.int .i64) .nil))) (y : PH.T .nil) (K : PL.T (.cons (.int .i64) (.cons .str (.cons .bool .nil))) → PH.T .nil → Prop) : Yrule_number xrule_digits xatoi x.1 x.2.1 (fun u0 u1 u2 => K (u0, (u1, (u2, ()))) ()) = bodyC (envP Tryz.prog 29 gives ⟨tabC [Jrule_digits xrule_digits, Jatoi xatoi], tabL []⟩) Tryz.f105 (Tryz.f105.body.getD .skip) (PL.enc (.cons .str (.cons (.int .i64) .nil)) x) (PH.enc .nil y) (resK (.cons (.int .i64) (.cons .str (.cons .bool .nil))) .nil K) := by kernel_rfl
theorem Irule_number_ok : InstOk Tryz.prog G.1 Irule_number := inst_ok (gives := gives) (is := [Irule_digits, Iatoi]) [] (okCons Irule_digits_ok (okCons Iatoi_ok okNil)) 29 follows Tryz.func105 (by kernel_rfl) (fun x => by kernel_rfl) (fun x y K => Erule_number Xrule_digits Xatoi x y K)

/- epact/rule.week -/
def Yrule_week (xrule_number : (ByteArray) → (Int) → ((Int) → (ByteArray) → (Bool) → Prop) → Prop) (xstrings_CutPrefix : (ByteArray) → (ByteArray) → ((ByteArray) → (Bool) → Prop) → Prop) (a0 : ByteArray) (K : (Int × Int × Int × Int × Int × Unit) → (ByteArray) → (Bool) → Prop) : Prop :=
 xrule_number a0 (2 : Int) (fun r1 r2 r3 =>
 xstrings_CutPrefix r2 (ByteArray.mk #[(46 : UInt8)]) (fun r4 r5 =>
 xrule_number r4 (1 : Int) (fun r6 r7 r8 =>
 xstrings_CutPrefix r7 (ByteArray.mk #[(46 : UInt8)]) (fun r9 r10 =>
 xrule_number r9 (1 : Int) (fun r11 r12 r13 =>
 (if r3 = true then
 (if r8 = true then
 (if r13 = true then
 (if r5 = true then
 K ((0 : Int), r1, r6, r11, (0 : Int), ()) r12 r10
 else
 K ((0 : Int), r1, r6, r11, (0 : Int), ()) r12 false)
 else
 K ((0 : Int), r1, r6, r11, (0 : Int), ()) r12 false)
 else
 K ((0 : Int), r1, r6, r11, (0 : Int), ()) r12 false)
 else
 K ((0 : Int), r1, r6, r11, (0 : Int), ()) r12 false))))))
def Xrule_week (a0 : ByteArray) (K : (Int × Int × Int × Int × Int × Unit) → (ByteArray) → (Bool) → Prop) : Prop := Yrule_week Xrule_number Xstrings_CutPrefix a0 K
def Jrule_week (X : (ByteArray) → ((Int × Int × Int × Int × Int × Unit) → (ByteArray) → (Bool) → Prop) → Prop) : Inst := ⟨104, (.cons .str .nil), .nil, (.cons (.agg (.cons (.int .i64) (.cons (.int .i64) (.cons (.int .i64) (.cons (.int .i64) (.cons (.int .i64) .nil)))))) (.cons .str (.cons .bool .nil))), .nil, fun x y K => X x.1 (fun u0 u1 u2 => K (u0, (u1, (u2, ()))) ())⟩
def Irule_week : Inst := Jrule_week Xrule_week
theorem Erule_week (xrule_number : (ByteArray) → (Int) → ((Int) → (ByteArray) → (Bool) → Prop) → Prop) (xstrings_CutPrefix : (ByteArray) → (ByteArray) → ((ByteArray) → (Bool) → Prop) → Prop) (x : PL.T (.cons .str .nil)) (y : PH.T .nil) (K : PL.T (.cons (.agg (.cons (.int .i64) (.cons (.int .i64) (.cons (.int .i64) (.cons (.int .i64) (.cons (.int .i64) .nil)))))) (.cons .str (.cons .bool .nil))) → PH.T .nil → Prop) : Yrule_week xrule_number xstrings_CutPrefix x.1 (fun u0 u1 u2 => K (u0, (u1, (u2, ()))) ()) = bodyC (envP Tryz.prog 63 gives ⟨tabC [Jrule_number xrule_number, Jstrings_CutPrefix xstrings_CutPrefix], tabL []⟩) Tryz.f104 (Tryz.f104.body.getD .skip) (PL.enc (.cons .str .nil) x) (PH.enc .nil y) (resK (.cons (.agg (.cons (.int .i64) (.cons (.int .i64) (.cons (.int .i64) (.cons (.int .i64) (.cons (.int .i64) .nil)))))) (.cons .str (.cons .bool .nil))) .nil K) := by kernel_rfl
theorem Irule_week_ok : InstOk Tryz.prog G.1 Irule_week := inst_ok (gives := gives) (is := [Irule_number, Istrings_CutPrefix]) [] (okCons Irule_number_ok (okCons Istrings_CutPrefix_ok okNil)) 63 follows Tryz.func104 (by kernel_rfl) (fun x => by kernel_rfl) (fun x y K => Erule_week Xrule_number Xstrings_CutPrefix x y K)

/- epact/rule.date -/
def Yrule_date (xstrings_CutPrefix : (ByteArray) → (ByteArray) → ((ByteArray) → (Bool) → Prop) → Prop) (xrule_week : (ByteArray) → ((Int × Int × Int × Int × Int × Unit) → (ByteArray) → (Bool) → Prop) → Prop) (xrule_number : (ByteArray) → (Int) → ((Int) → (ByteArray) → (Bool) → Prop) → Prop) (a0 : ByteArray) (K : (Int × Int × Int × Int × Int × Unit) → (ByteArray) → (Bool) → Prop) : Prop :=
 xstrings_CutPrefix a0 (ByteArray.mk #[(77 : UInt8)]) (fun r1 r2 =>
 (if r2 = true then
 xrule_week r1 (fun r3 r4 r5 =>
 K r3 r4 r5)
 else
 xstrings_CutPrefix a0 (ByteArray.mk #[(74 : UInt8)]) (fun r6 r7 =>
 (if r7 = true then
 xrule_number r6 (3 : Int) (fun r8 r9 r10 =>
 K ((1 : Int), r8, (0 : Int), (0 : Int), (0 : Int), ()) r9 r10)
 else
 xrule_number r6 (3 : Int) (fun r11 r12 r13 =>
 K ((2 : Int), r11, (0 : Int), (0 : Int), (0 : Int), ()) r12 r13)))))
def Xrule_date (a0 : ByteArray) (K : (Int × Int × Int × Int × Int × Unit) → (ByteArray) → (Bool) → Prop) : Prop := Yrule_date Xstrings_CutPrefix Xrule_week Xrule_number a0 K
def Jrule_date (X : (ByteArray) → ((Int × Int × Int × Int × Int × Unit) → (ByteArray) → (Bool) → Prop) → Prop) : Inst := ⟨92, (.cons .str .nil), .nil, (.cons (.agg (.cons (.int .i64) (.cons (.int .i64) (.cons (.int .i64) (.cons (.int .i64) (.cons (.int .i64) .nil)))))) (.cons .str (.cons .bool .nil))), .nil, fun x y K => X x.1 (fun u0 u1 u2 => K (u0, (u1, (u2, ()))) ())⟩
def Irule_date : Inst := Jrule_date Xrule_date
theorem Erule_date (xstrings_CutPrefix : (ByteArray) → (ByteArray) → ((ByteArray) → (Bool) → Prop) → Prop) (xrule_week : (ByteArray) → ((Int × Int × Int × Int × Int × Unit) → (ByteArray) → (Bool) → Prop) → Prop) (xrule_number : (ByteArray) → (Int) → ((Int) → (ByteArray) → (Bool) → Prop) → Prop) (x : PL.T (.cons .str .nil)) (y : PH.T .nil) (K : PL.T (.cons (.agg (.cons (.int .i64) (.cons (.int .i64) (.cons (.int .i64) (.cons (.int .i64) (.cons (.int .i64) .nil)))))) (.cons .str (.cons .bool .nil))) → PH.T .nil → Prop) : Yrule_date xstrings_CutPrefix xrule_week xrule_number x.1 (fun u0 u1 u2 => K (u0, (u1, (u2, ()))) ()) = bodyC (envP Tryz.prog 38 gives ⟨tabC [Jstrings_CutPrefix xstrings_CutPrefix, Jrule_week xrule_week, Jrule_number xrule_number], tabL []⟩) Tryz.f92 (Tryz.f92.body.getD .skip) (PL.enc (.cons .str .nil) x) (PH.enc .nil y) (resK (.cons (.agg (.cons (.int .i64) (.cons (.int .i64) (.cons (.int .i64) (.cons (.int .i64) (.cons (.int .i64) .nil)))))) (.cons .str (.cons .bool .nil))) .nil K) := by kernel_rfl
theorem Irule_date_ok : InstOk Tryz.prog G.1 Irule_date := inst_ok (gives := gives) (is := [Istrings_CutPrefix, Irule_week, Irule_number]) [] (okCons Istrings_CutPrefix_ok (okCons Irule_week_ok (okCons Irule_number_ok okNil))) 38 follows Tryz.func92 (by kernel_rfl) (fun x => by kernel_rfl) (fun x y K => Erule_date Xstrings_CutPrefix Xrule_week Xrule_number x y K)

/- epact/rule.Parse -/
def Yrule_Parse (xrule_date : (ByteArray) → ((Int × Int × Int × Int × Int × Unit) → (ByteArray) → (Bool) → Prop) → Prop) (xstrings_CutPrefix : (ByteArray) → (ByteArray) → ((ByteArray) → (Bool) → Prop) → Prop) (xrule_Time : (ByteArray) → ((Int) → (ByteArray) → (Bool) → Prop) → Prop) (xrule_Right : (Int × Int × Int × Int × Int × Unit) → ((Bool) → Prop) → Prop) (a0 : ByteArray) (K : (Int × Int × Int × Int × Int × Unit) → (ByteArray) → (Bool) → Prop) : Prop :=
 xrule_date a0 (fun r1 r2 r3 =>
 xstrings_CutPrefix r2 (ByteArray.mk #[(47 : UInt8)]) (fun r4 r5 =>
 (if r3 = true then
 (if r5 = true then
 xrule_Time r4 (fun r6 r7 r8 =>
 (if (!r8) = true then
 K ((0 : Int), (0 : Int), (0 : Int), (0 : Int), (0 : Int), ()) a0 false
 else
 xrule_Right (r1.1, r1.2.1, r1.2.2.1, r1.2.2.2.1, r6, ()) (fun r9 =>
 (if (!r9) = true then
 K ((0 : Int), (0 : Int), (0 : Int), (0 : Int), (0 : Int), ()) a0 false
 else
 K (r1.1, r1.2.1, r1.2.2.1, r1.2.2.2.1, r6, ()) r7 true))))
 else
 (if (!r3) = true then
 K ((0 : Int), (0 : Int), (0 : Int), (0 : Int), (0 : Int), ()) a0 false
 else
 xrule_Right (r1.1, r1.2.1, r1.2.2.1, r1.2.2.2.1, (7200 : Int), ()) (fun r10 =>
 (if (!r10) = true then
 K ((0 : Int), (0 : Int), (0 : Int), (0 : Int), (0 : Int), ()) a0 false
 else
 K (r1.1, r1.2.1, r1.2.2.1, r1.2.2.2.1, (7200 : Int), ()) r2 true))))
 else
 (if (!r3) = true then
 K ((0 : Int), (0 : Int), (0 : Int), (0 : Int), (0 : Int), ()) a0 false
 else
 xrule_Right (r1.1, r1.2.1, r1.2.2.1, r1.2.2.2.1, (7200 : Int), ()) (fun r11 =>
 (if (!r11) = true then
 K ((0 : Int), (0 : Int), (0 : Int), (0 : Int), (0 : Int), ()) a0 false
 else
 K (r1.1, r1.2.1, r1.2.2.1, r1.2.2.2.1, (7200 : Int), ()) r2 true))))))
def Xrule_Parse (a0 : ByteArray) (K : (Int × Int × Int × Int × Int × Unit) → (ByteArray) → (Bool) → Prop) : Prop := Yrule_Parse Xrule_date Xstrings_CutPrefix Xrule_Time Xrule_Right a0 K
def Jrule_Parse (X : (ByteArray) → ((Int × Int × Int × Int × Int × Unit) → (ByteArray) → (Bool) → Prop) → Prop) : Inst := ⟨72, (.cons .str .nil), .nil, (.cons (.agg (.cons (.int .i64) (.cons (.int .i64) (.cons (.int .i64) (.cons (.int .i64) (.cons (.int .i64) .nil)))))) (.cons .str (.cons .bool .nil))), .nil, fun x y K => X x.1 (fun u0 u1 u2 => K (u0, (u1, (u2, ()))) ())⟩
def Irule_Parse : Inst := Jrule_Parse Xrule_Parse
theorem Erule_Parse (xrule_date : (ByteArray) → ((Int × Int × Int × Int × Int × Unit) → (ByteArray) → (Bool) → Prop) → Prop) (xstrings_CutPrefix : (ByteArray) → (ByteArray) → ((ByteArray) → (Bool) → Prop) → Prop) (xrule_Time : (ByteArray) → ((Int) → (ByteArray) → (Bool) → Prop) → Prop) (xrule_Right : (Int × Int × Int × Int × Int × Unit) → ((Bool) → Prop) → Prop) (x : PL.T (.cons .str .nil)) (y : PH.T .nil) (K : PL.T (.cons (.agg (.cons (.int .i64) (.cons (.int .i64) (.cons (.int .i64) (.cons (.int .i64) (.cons (.int .i64) .nil)))))) (.cons .str (.cons .bool .nil))) → PH.T .nil → Prop) : Yrule_Parse xrule_date xstrings_CutPrefix xrule_Time xrule_Right x.1 (fun u0 u1 u2 => K (u0, (u1, (u2, ()))) ()) = bodyC (envP Tryz.prog 44 gives ⟨tabC [Jrule_date xrule_date, Jstrings_CutPrefix xstrings_CutPrefix, Jrule_Time xrule_Time, Jrule_Right xrule_Right], tabL []⟩) Tryz.f72 (Tryz.f72.body.getD .skip) (PL.enc (.cons .str .nil) x) (PH.enc .nil y) (resK (.cons (.agg (.cons (.int .i64) (.cons (.int .i64) (.cons (.int .i64) (.cons (.int .i64) (.cons (.int .i64) .nil)))))) (.cons .str (.cons .bool .nil))) .nil K) := by kernel_rfl
theorem Irule_Parse_ok : InstOk Tryz.prog G.1 Irule_Parse := inst_ok (gives := gives) (is := [Irule_date, Istrings_CutPrefix, Irule_Time, Irule_Right]) [] (okCons Irule_date_ok (okCons Istrings_CutPrefix_ok (okCons Irule_Time_ok (okCons Irule_Right_ok okNil)))) 44 follows Tryz.func72 (by kernel_rfl) (fun x => by kernel_rfl) (fun x y K => Erule_Parse Xrule_date Xstrings_CutPrefix Xrule_Time Xrule_Right x y K)

/- (*epact/foot.reader).rule -/
def Yfoot_reader_rule (xstrings_CutPrefix : (ByteArray) → (ByteArray) → ((ByteArray) → (Bool) → Prop) → Prop) (xrule_Parse : (ByteArray) → ((Int × Int × Int × Int × Int × Unit) → (ByteArray) → (Bool) → Prop) → Prop) (a0 : ByteArray) (a1 : Int) (a2 : Bool) (a3 : ByteArray) (a4 : Int) (a5 : Bool) (a6 : ByteArray) (a7 : Bool) (a8 : Int) (a9 : Int) (a10 : Int) (a11 : Int) (a12 : Int) (a13 : Int) (a14 : Int) (a15 : Int) (a16 : Int) (a17 : Int) (K : (Bool) → (ByteArray) → (Int) → (Bool) → (ByteArray) → (Int) → (Bool) → (ByteArray) → (Bool) → (Int) → (Int) → (Int) → (Int) → (Int) → (Int) → (Int) → (Int) → (Int) → (Int) → Prop) : Prop :=
 xstrings_CutPrefix a0 (ByteArray.mk #[(44 : UInt8)]) (fun r18 r19 =>
 xrule_Parse r18 (fun r20 r21 r22 =>
 (if r22 = true then
 K r19 r21 a1 a2 a3 a4 a5 a6 a7 r20.1 r20.2.1 r20.2.2.1 r20.2.2.2.1 r20.2.2.2.2.1 a13 a14 a15 a16 a17
 else
 K false r21 a1 a2 a3 a4 a5 a6 a7 r20.1 r20.2.1 r20.2.2.1 r20.2.2.2.1 r20.2.2.2.2.1 a13 a14 a15 a16 a17)))
def Xfoot_reader_rule (a0 : ByteArray) (a1 : Int) (a2 : Bool) (a3 : ByteArray) (a4 : Int) (a5 : Bool) (a6 : ByteArray) (a7 : Bool) (a8 : Int) (a9 : Int) (a10 : Int) (a11 : Int) (a12 : Int) (a13 : Int) (a14 : Int) (a15 : Int) (a16 : Int) (a17 : Int) (K : (Bool) → (ByteArray) → (Int) → (Bool) → (ByteArray) → (Int) → (Bool) → (ByteArray) → (Bool) → (Int) → (Int) → (Int) → (Int) → (Int) → (Int) → (Int) → (Int) → (Int) → (Int) → Prop) : Prop := Yfoot_reader_rule Xstrings_CutPrefix Xrule_Parse a0 a1 a2 a3 a4 a5 a6 a7 a8 a9 a10 a11 a12 a13 a14 a15 a16 a17 K
def Jfoot_reader_rule (X : (ByteArray) → (Int) → (Bool) → (ByteArray) → (Int) → (Bool) → (ByteArray) → (Bool) → (Int) → (Int) → (Int) → (Int) → (Int) → (Int) → (Int) → (Int) → (Int) → (Int) → ((Bool) → (ByteArray) → (Int) → (Bool) → (ByteArray) → (Int) → (Bool) → (ByteArray) → (Bool) → (Int) → (Int) → (Int) → (Int) → (Int) → (Int) → (Int) → (Int) → (Int) → (Int) → Prop) → Prop) : Inst := ⟨50, (.cons (.ptr 0 0) (.cons (.ptr 0 8) .nil)), (.cons 0 (.cells [.str, .int .i64, .bool, .str, .int .i64, .bool, .str, .bool, .int .i64, .int .i64, .int .i64, .int .i64, .int .i64, .int .i64, .int .i64, .int .i64, .int .i64, .int .i64] (.cons .str (.cons (.int .i64) (.cons .bool (.cons .str (.cons (.int .i64) (.cons .bool (.cons .str (.cons .bool (.cons (.int .i64) (.cons (.int .i64) (.cons (.int .i64) (.cons (.int .i64) (.cons (.int .i64) (.cons (.int .i64) (.cons (.int .i64) (.cons (.int .i64) (.cons (.int .i64) (.cons (.int .i64) .nil))))))))))))))))))) .nil), (.cons .bool .nil), (.cons 0 (.cells [.str, .int .i64, .bool, .str, .int .i64, .bool, .str, .bool, .int .i64, .int .i64, .int .i64, .int .i64, .int .i64, .int .i64, .int .i64, .int .i64, .int .i64, .int .i64] (.cons .str (.cons (.int .i64) (.cons .bool (.cons .str (.cons (.int .i64) (.cons .bool (.cons .str (.cons .bool (.cons (.int .i64) (.cons (.int .i64) (.cons (.int .i64) (.cons (.int .i64) (.cons (.int .i64) (.cons (.int .i64) (.cons (.int .i64) (.cons (.int .i64) (.cons (.int .i64) (.cons (.int .i64) .nil))))))))))))))))))) .nil), fun x y K => X y.1.1 y.1.2.1 y.1.2.2.1 y.1.2.2.2.1 y.1.2.2.2.2.1 y.1.2.2.2.2.2.1 y.1.2.2.2.2.2.2.1 y.1.2.2.2.2.2.2.2.1 y.1.2.2.2.2.2.2.2.2.1 y.1.2.2.2.2.2.2.2.2.2.1 y.1.2.2.2.2.2.2.2.2.2.2.1 y.1.2.2.2.2.2.2.2.2.2.2.2.1 y.1.2.2.2.2.2.2.2.2.2.2.2.2.1 y.1.2.2.2.2.2.2.2.2.2.2.2.2.2.1 y.1.2.2.2.2.2.2.2.2.2.2.2.2.2.2.1 y.1.2.2.2.2.2.2.2.2.2.2.2.2.2.2.2.1 y.1.2.2.2.2.2.2.2.2.2.2.2.2.2.2.2.2.1 y.1.2.2.2.2.2.2.2.2.2.2.2.2.2.2.2.2.2.1 (fun u0 u1 u2 u3 u4 u5 u6 u7 u8 u9 u10 u11 u12 u13 u14 u15 u16 u17 u18 => K (u0, ()) ((u1, (u2, (u3, (u4, (u5, (u6, (u7, (u8, (u9, (u10, (u11, (u12, (u13, (u14, (u15, (u16, (u17, (u18, ())))))))))))))))))), ()))⟩
def Ifoot_reader_rule : Inst := Jfoot_reader_rule Xfoot_reader_rule
theorem Efoot_reader_rule (xstrings_CutPrefix : (ByteArray) → (ByteArray) → ((ByteArray) → (Bool) → Prop) → Prop) (xrule_Parse : (ByteArray) → ((Int × Int × Int × Int × Int × Unit) → (ByteArray) → (Bool) → Prop) → Prop) (x : PL.T (.cons (.ptr 0 0) (.cons (.ptr 0 8) .nil))) (y : PH.T (.cons 0 (.cells [.str, .int .i64, .bool, .str, .int .i64, .bool, .str, .bool, .int .i64, .int .i64, .int .i64, .int .i64, .int .i64, .int .i64, .int .i64, .int .i64, .int .i64, .int .i64] (.cons .str (.cons (.int .i64) (.cons .bool (.cons .str (.cons (.int .i64) (.cons .bool (.cons .str (.cons .bool (.cons (.int .i64) (.cons (.int .i64) (.cons (.int .i64) (.cons (.int .i64) (.cons (.int .i64) (.cons (.int .i64) (.cons (.int .i64) (.cons (.int .i64) (.cons (.int .i64) (.cons (.int .i64) .nil))))))))))))))))))) .nil)) (K : PL.T (.cons .bool .nil) → PH.T (.cons 0 (.cells [.str, .int .i64, .bool, .str, .int .i64, .bool, .str, .bool, .int .i64, .int .i64, .int .i64, .int .i64, .int .i64, .int .i64, .int .i64, .int .i64, .int .i64, .int .i64] (.cons .str (.cons (.int .i64) (.cons .bool (.cons .str (.cons (.int .i64) (.cons .bool (.cons .str (.cons .bool (.cons (.int .i64) (.cons (.int .i64) (.cons (.int .i64) (.cons (.int .i64) (.cons (.int .i64) (.cons (.int .i64) (.cons (.int .i64) (.cons (.int .i64) (.cons (.int .i64) (.cons (.int .i64) .nil))))))))))))))))))) .nil) → Prop) : Yfoot_reader_rule xstrings_CutPrefix xrule_Parse y.1.1 y.1.2.1 y.1.2.2.1 y.1.2.2.2.1 y.1.2.2.2.2.1 y.1.2.2.2.2.2.1 y.1.2.2.2.2.2.2.1 y.1.2.2.2.2.2.2.2.1 y.1.2.2.2.2.2.2.2.2.1 y.1.2.2.2.2.2.2.2.2.2.1 y.1.2.2.2.2.2.2.2.2.2.2.1 y.1.2.2.2.2.2.2.2.2.2.2.2.1 y.1.2.2.2.2.2.2.2.2.2.2.2.2.1 y.1.2.2.2.2.2.2.2.2.2.2.2.2.2.1 y.1.2.2.2.2.2.2.2.2.2.2.2.2.2.2.1 y.1.2.2.2.2.2.2.2.2.2.2.2.2.2.2.2.1 y.1.2.2.2.2.2.2.2.2.2.2.2.2.2.2.2.2.1 y.1.2.2.2.2.2.2.2.2.2.2.2.2.2.2.2.2.2.1 (fun u0 u1 u2 u3 u4 u5 u6 u7 u8 u9 u10 u11 u12 u13 u14 u15 u16 u17 u18 => K (u0, ()) ((u1, (u2, (u3, (u4, (u5, (u6, (u7, (u8, (u9, (u10, (u11, (u12, (u13, (u14, (u15, (u16, (u17, (u18, ())))))))))))))))))), ())) = bodyC (envP Tryz.prog 30 gives ⟨tabC [Jstrings_CutPrefix xstrings_CutPrefix, Jrule_Parse xrule_Parse], tabL []⟩) Tryz.f50 (Tryz.f50.body.getD .skip) (PL.enc (.cons (.ptr 0 0) (.cons (.ptr 0 8) .nil)) x) (PH.enc (.cons 0 (.cells [.str, .int .i64, .bool, .str, .int .i64, .bool, .str, .bool, .int .i64, .int .i64, .int .i64, .int .i64, .int .i64, .int .i64, .int .i64, .int .i64, .int .i64, .int .i64] (.cons .str (.cons (.int .i64) (.cons .bool (.cons .str (.cons (.int .i64) (.cons .bool (.cons .str (.cons .bool (.cons (.int .i64) (.cons (.int .i64) (.cons (.int .i64) (.cons (.int .i64) (.cons (.int .i64) (.cons (.int .i64) (.cons (.int .i64) (.cons (.int .i64) (.cons (.int .i64) (.cons (.int .i64) .nil))))))))))))))))))) .nil) y) (resK (.cons .bool .nil) (.cons 0 (.cells [.str, .int .i64, .bool, .str, .int .i64, .bool, .str, .bool, .int .i64, .int .i64, .int .i64, .int .i64, .int .i64, .int .i64, .int .i64, .int .i64, .int .i64, .int .i64] (.cons .str (.cons (.int .i64) (.cons .bool (.cons .str (.cons (.int .i64) (.cons .bool (.cons .str (.cons .bool (.cons (.int .i64) (.cons (.int .i64) (.cons (.int .i64) (.cons (.int .i64) (.cons (.int .i64) (.cons (.int .i64) (.cons (.int .i64) (.cons (.int .i64) (.cons (.int .i64) (.cons (.int .i64) .nil))))))))))))))))))) .nil) K) := by kernel_rfl
theorem Ifoot_reader_rule_ok : InstOk Tryz.prog G.1 Ifoot_reader_rule := inst_ok (gives := gives) (is := [Istrings_CutPrefix, Irule_Parse]) [] (okCons Istrings_CutPrefix_ok (okCons Irule_Parse_ok okNil)) 30 follows Tryz.func50 (by kernel_rfl) (fun x => by kernel_rfl) (fun x y K => Efoot_reader_rule Xstrings_CutPrefix Xrule_Parse x y K)

/- (*epact/foot.reader).from -/
def Yfoot_reader_from (xfoot_reader_rule : (ByteArray) → (Int) → (Bool) → (ByteArray) → (Int) → (Bool) → (ByteArray) → (Bool) → (Int) → (Int) → (Int) → (Int) → (Int) → (Int) → (Int) → (Int) → (Int) → (Int) → ((Bool) → (ByteArray) → (Int) → (Bool) → (ByteArray) → (Int) → (Bool) → (ByteArray) → (Bool) → (Int) → (Int) → (Int) → (Int) → (Int) → (Int) → (Int) → (Int) → (Int) → (Int) → Prop) → Prop) (a0 : ByteArray) (a1 : Int) (a2 : Bool) (a3 : ByteArray) (a4 : Int) (a5 : Bool) (a6 : ByteArray) (a7 : Bool) (a8 : Int) (a9 : Int) (a10 : Int) (a11 : Int) (a12 : Int) (a13 : Int) (a14 : Int) (a15 : Int) (a16 : Int) (a17 : Int) (K : (Bool) → (ByteArray) → (Int) → (Bool) → (ByteArray) → (Int) → (Bool) → (ByteArray) → (Bool) → (Int) → (Int) → (Int) → (Int) → (Int) → (Int) → (Int) → (Int) → (Int) → (Int) → Prop) : Prop :=
 xfoot_reader_rule a0 a1 a2 a3 a4 a5 a6 a7 a8 a9 a10 a11 a12 a13 a14 a15 a16 a17 (fun r18 r19 r20 r21 r22 r23 r24 r25 r26 r27 r28 r29 r30 r31 r32 r33 r34 r35 r36 =>
 K r18 r19 r20 r21 r22 r23 r24 r25 r26 r27 r28 r29 r30 r31 r32 r33 r34 r35 r36)
def Xfoot_reader_from (a0 : ByteArray) (a1 : Int) (a2 : Bool) (a3 : ByteArray) (a4 : Int) (a5 : Bool) (a6 : ByteArray) (a7 : Bool) (a8 : Int) (a9 : Int) (a10 : Int) (a11 : Int) (a12 : Int) (a13 : Int) (a14 : Int) (a15 : Int) (a16 : Int) (a17 : Int) (K : (Bool) → (ByteArray) → (Int) → (Bool) → (ByteArray) → (Int) → (Bool) → (ByteArray) → (Bool) → (Int) → (Int) → (Int) → (Int) → (Int) → (Int) → (Int) → (Int) → (Int) → (Int) → Prop) : Prop := Yfoot_reader_from Xfoot_reader_rule a0 a1 a2 a3 a4 a5 a6 a7 a8 a9 a10 a11 a12 a13 a14 a15 a16 a17 K
def Jfoot_reader_from (X : (ByteArray) → (Int) → (Bool) → (ByteArray) → (Int) → (Bool) → (ByteArray) → (Bool) → (Int) → (Int) → (Int) → (Int) → (Int) → (Int) → (Int) → (Int) → (Int) → (Int) → ((Bool) → (ByteArray) → (Int) → (Bool) → (ByteArray) → (Int) → (Bool) → (ByteArray) → (Bool) → (Int) → (Int) → (Int) → (Int) → (Int) → (Int) → (Int) → (Int) → (Int) → (Int) → Prop) → Prop) : Inst := ⟨23, (.cons (.ptr 0 0) .nil), (.cons 0 (.cells [.str, .int .i64, .bool, .str, .int .i64, .bool, .str, .bool, .int .i64, .int .i64, .int .i64, .int .i64, .int .i64, .int .i64, .int .i64, .int .i64, .int .i64, .int .i64] (.cons .str (.cons (.int .i64) (.cons .bool (.cons .str (.cons (.int .i64) (.cons .bool (.cons .str (.cons .bool (.cons (.int .i64) (.cons (.int .i64) (.cons (.int .i64) (.cons (.int .i64) (.cons (.int .i64) (.cons (.int .i64) (.cons (.int .i64) (.cons (.int .i64) (.cons (.int .i64) (.cons (.int .i64) .nil))))))))))))))))))) .nil), (.cons .bool .nil), (.cons 0 (.cells [.str, .int .i64, .bool, .str, .int .i64, .bool, .str, .bool, .int .i64, .int .i64, .int .i64, .int .i64, .int .i64, .int .i64, .int .i64, .int .i64, .int .i64, .int .i64] (.cons .str (.cons (.int .i64) (.cons .bool (.cons .str (.cons (.int .i64) (.cons .bool (.cons .str (.cons .bool (.cons (.int .i64) (.cons (.int .i64) (.cons (.int .i64) (.cons (.int .i64) (.cons (.int .i64) (.cons (.int .i64) (.cons (.int .i64) (.cons (.int .i64) (.cons (.int .i64) (.cons (.int .i64) .nil))))))))))))))))))) .nil), fun x y K => X y.1.1 y.1.2.1 y.1.2.2.1 y.1.2.2.2.1 y.1.2.2.2.2.1 y.1.2.2.2.2.2.1 y.1.2.2.2.2.2.2.1 y.1.2.2.2.2.2.2.2.1 y.1.2.2.2.2.2.2.2.2.1 y.1.2.2.2.2.2.2.2.2.2.1 y.1.2.2.2.2.2.2.2.2.2.2.1 y.1.2.2.2.2.2.2.2.2.2.2.2.1 y.1.2.2.2.2.2.2.2.2.2.2.2.2.1 y.1.2.2.2.2.2.2.2.2.2.2.2.2.2.1 y.1.2.2.2.2.2.2.2.2.2.2.2.2.2.2.1 y.1.2.2.2.2.2.2.2.2.2.2.2.2.2.2.2.1 y.1.2.2.2.2.2.2.2.2.2.2.2.2.2.2.2.2.1 y.1.2.2.2.2.2.2.2.2.2.2.2.2.2.2.2.2.2.1 (fun u0 u1 u2 u3 u4 u5 u6 u7 u8 u9 u10 u11 u12 u13 u14 u15 u16 u17 u18 => K (u0, ()) ((u1, (u2, (u3, (u4, (u5, (u6, (u7, (u8, (u9, (u10, (u11, (u12, (u13, (u14, (u15, (u16, (u17, (u18, ())))))))))))))))))), ()))⟩
def Ifoot_reader_from : Inst := Jfoot_reader_from Xfoot_reader_from
theorem Efoot_reader_from (xfoot_reader_rule : (ByteArray) → (Int) → (Bool) → (ByteArray) → (Int) → (Bool) → (ByteArray) → (Bool) → (Int) → (Int) → (Int) → (Int) → (Int) → (Int) → (Int) → (Int) → (Int) → (Int) → ((Bool) → (ByteArray) → (Int) → (Bool) → (ByteArray) → (Int) → (Bool) → (ByteArray) → (Bool) → (Int) → (Int) → (Int) → (Int) → (Int) → (Int) → (Int) → (Int) → (Int) → (Int) → Prop) → Prop) (x : PL.T (.cons (.ptr 0 0) .nil)) (y : PH.T (.cons 0 (.cells [.str, .int .i64, .bool, .str, .int .i64, .bool, .str, .bool, .int .i64, .int .i64, .int .i64, .int .i64, .int .i64, .int .i64, .int .i64, .int .i64, .int .i64, .int .i64] (.cons .str (.cons (.int .i64) (.cons .bool (.cons .str (.cons (.int .i64) (.cons .bool (.cons .str (.cons .bool (.cons (.int .i64) (.cons (.int .i64) (.cons (.int .i64) (.cons (.int .i64) (.cons (.int .i64) (.cons (.int .i64) (.cons (.int .i64) (.cons (.int .i64) (.cons (.int .i64) (.cons (.int .i64) .nil))))))))))))))))))) .nil)) (K : PL.T (.cons .bool .nil) → PH.T (.cons 0 (.cells [.str, .int .i64, .bool, .str, .int .i64, .bool, .str, .bool, .int .i64, .int .i64, .int .i64, .int .i64, .int .i64, .int .i64, .int .i64, .int .i64, .int .i64, .int .i64] (.cons .str (.cons (.int .i64) (.cons .bool (.cons .str (.cons (.int .i64) (.cons .bool (.cons .str (.cons .bool (.cons (.int .i64) (.cons (.int .i64) (.cons (.int .i64) (.cons (.int .i64) (.cons (.int .i64) (.cons (.int .i64) (.cons (.int .i64) (.cons (.int .i64) (.cons (.int .i64) (.cons (.int .i64) .nil))))))))))))))))))) .nil) → Prop) : Yfoot_reader_from xfoot_reader_rule y.1.1 y.1.2.1 y.1.2.2.1 y.1.2.2.2.1 y.1.2.2.2.2.1 y.1.2.2.2.2.2.1 y.1.2.2.2.2.2.2.1 y.1.2.2.2.2.2.2.2.1 y.1.2.2.2.2.2.2.2.2.1 y.1.2.2.2.2.2.2.2.2.2.1 y.1.2.2.2.2.2.2.2.2.2.2.1 y.1.2.2.2.2.2.2.2.2.2.2.2.1 y.1.2.2.2.2.2.2.2.2.2.2.2.2.1 y.1.2.2.2.2.2.2.2.2.2.2.2.2.2.1 y.1.2.2.2.2.2.2.2.2.2.2.2.2.2.2.1 y.1.2.2.2.2.2.2.2.2.2.2.2.2.2.2.2.1 y.1.2.2.2.2.2.2.2.2.2.2.2.2.2.2.2.2.1 y.1.2.2.2.2.2.2.2.2.2.2.2.2.2.2.2.2.2.1 (fun u0 u1 u2 u3 u4 u5 u6 u7 u8 u9 u10 u11 u12 u13 u14 u15 u16 u17 u18 => K (u0, ()) ((u1, (u2, (u3, (u4, (u5, (u6, (u7, (u8, (u9, (u10, (u11, (u12, (u13, (u14, (u15, (u16, (u17, (u18, ())))))))))))))))))), ())) = bodyC (envP Tryz.prog 9 gives ⟨tabC [Jfoot_reader_rule xfoot_reader_rule], tabL []⟩) Tryz.f23 (Tryz.f23.body.getD .skip) (PL.enc (.cons (.ptr 0 0) .nil) x) (PH.enc (.cons 0 (.cells [.str, .int .i64, .bool, .str, .int .i64, .bool, .str, .bool, .int .i64, .int .i64, .int .i64, .int .i64, .int .i64, .int .i64, .int .i64, .int .i64, .int .i64, .int .i64] (.cons .str (.cons (.int .i64) (.cons .bool (.cons .str (.cons (.int .i64) (.cons .bool (.cons .str (.cons .bool (.cons (.int .i64) (.cons (.int .i64) (.cons (.int .i64) (.cons (.int .i64) (.cons (.int .i64) (.cons (.int .i64) (.cons (.int .i64) (.cons (.int .i64) (.cons (.int .i64) (.cons (.int .i64) .nil))))))))))))))))))) .nil) y) (resK (.cons .bool .nil) (.cons 0 (.cells [.str, .int .i64, .bool, .str, .int .i64, .bool, .str, .bool, .int .i64, .int .i64, .int .i64, .int .i64, .int .i64, .int .i64, .int .i64, .int .i64, .int .i64, .int .i64] (.cons .str (.cons (.int .i64) (.cons .bool (.cons .str (.cons (.int .i64) (.cons .bool (.cons .str (.cons .bool (.cons (.int .i64) (.cons (.int .i64) (.cons (.int .i64) (.cons (.int .i64) (.cons (.int .i64) (.cons (.int .i64) (.cons (.int .i64) (.cons (.int .i64) (.cons (.int .i64) (.cons (.int .i64) .nil))))))))))))))))))) .nil) K) := by kernel_rfl
theorem Ifoot_reader_from_ok : InstOk Tryz.prog G.1 Ifoot_reader_from := inst_ok (gives := gives) (is := [Ifoot_reader_rule]) [] (okCons Ifoot_reader_rule_ok okNil) 9 follows Tryz.func23 (by kernel_rfl) (fun x => by kernel_rfl) (fun x y K => Efoot_reader_from Xfoot_reader_rule x y K)

/- (*epact/foot.reader).rule -/
def Yfoot_reader_rule_1 (xstrings_CutPrefix : (ByteArray) → (ByteArray) → ((ByteArray) → (Bool) → Prop) → Prop) (xrule_Parse : (ByteArray) → ((Int × Int × Int × Int × Int × Unit) → (ByteArray) → (Bool) → Prop) → Prop) (a0 : ByteArray) (a1 : Int) (a2 : Bool) (a3 : ByteArray) (a4 : Int) (a5 : Bool) (a6 : ByteArray) (a7 : Bool) (a8 : Int) (a9 : Int) (a10 : Int) (a11 : Int) (a12 : Int) (a13 : Int) (a14 : Int) (a15 : Int) (a16 : Int) (a17 : Int) (K : (Bool) → (ByteArray) → (Int) → (Bool) → (ByteArray) → (Int) → (Bool) → (ByteArray) → (Bool) → (Int) → (Int) → (Int) → (Int) → (Int) → (Int) → (Int) → (Int) → (Int) → (Int) → Prop) : Prop :=
 xstrings_CutPrefix a0 (ByteArray.mk #[(44 : UInt8)]) (fun r18 r19 =>
 xrule_Parse r18 (fun r20 r21 r22 =>
 (if r22 = true then
 K r19 r21 a1 a2 a3 a4 a5 a6 a7 a8 a9 a10 a11 a12 r20.1 r20.2.1 r20.2.2.1 r20.2.2.2.1 r20.2.2.2.2.1
 else
 K false r21 a1 a2 a3 a4 a5 a6 a7 a8 a9 a10 a11 a12 r20.1 r20.2.1 r20.2.2.1 r20.2.2.2.1 r20.2.2.2.2.1)))
def Xfoot_reader_rule_1 (a0 : ByteArray) (a1 : Int) (a2 : Bool) (a3 : ByteArray) (a4 : Int) (a5 : Bool) (a6 : ByteArray) (a7 : Bool) (a8 : Int) (a9 : Int) (a10 : Int) (a11 : Int) (a12 : Int) (a13 : Int) (a14 : Int) (a15 : Int) (a16 : Int) (a17 : Int) (K : (Bool) → (ByteArray) → (Int) → (Bool) → (ByteArray) → (Int) → (Bool) → (ByteArray) → (Bool) → (Int) → (Int) → (Int) → (Int) → (Int) → (Int) → (Int) → (Int) → (Int) → (Int) → Prop) : Prop := Yfoot_reader_rule_1 Xstrings_CutPrefix Xrule_Parse a0 a1 a2 a3 a4 a5 a6 a7 a8 a9 a10 a11 a12 a13 a14 a15 a16 a17 K
def Jfoot_reader_rule_1 (X : (ByteArray) → (Int) → (Bool) → (ByteArray) → (Int) → (Bool) → (ByteArray) → (Bool) → (Int) → (Int) → (Int) → (Int) → (Int) → (Int) → (Int) → (Int) → (Int) → (Int) → ((Bool) → (ByteArray) → (Int) → (Bool) → (ByteArray) → (Int) → (Bool) → (ByteArray) → (Bool) → (Int) → (Int) → (Int) → (Int) → (Int) → (Int) → (Int) → (Int) → (Int) → (Int) → Prop) → Prop) : Inst := ⟨50, (.cons (.ptr 0 0) (.cons (.ptr 0 13) .nil)), (.cons 0 (.cells [.str, .int .i64, .bool, .str, .int .i64, .bool, .str, .bool, .int .i64, .int .i64, .int .i64, .int .i64, .int .i64, .int .i64, .int .i64, .int .i64, .int .i64, .int .i64] (.cons .str (.cons (.int .i64) (.cons .bool (.cons .str (.cons (.int .i64) (.cons .bool (.cons .str (.cons .bool (.cons (.int .i64) (.cons (.int .i64) (.cons (.int .i64) (.cons (.int .i64) (.cons (.int .i64) (.cons (.int .i64) (.cons (.int .i64) (.cons (.int .i64) (.cons (.int .i64) (.cons (.int .i64) .nil))))))))))))))))))) .nil), (.cons .bool .nil), (.cons 0 (.cells [.str, .int .i64, .bool, .str, .int .i64, .bool, .str, .bool, .int .i64, .int .i64, .int .i64, .int .i64, .int .i64, .int .i64, .int .i64, .int .i64, .int .i64, .int .i64] (.cons .str (.cons (.int .i64) (.cons .bool (.cons .str (.cons (.int .i64) (.cons .bool (.cons .str (.cons .bool (.cons (.int .i64) (.cons (.int .i64) (.cons (.int .i64) (.cons (.int .i64) (.cons (.int .i64) (.cons (.int .i64) (.cons (.int .i64) (.cons (.int .i64) (.cons (.int .i64) (.cons (.int .i64) .nil))))))))))))))))))) .nil), fun x y K => X y.1.1 y.1.2.1 y.1.2.2.1 y.1.2.2.2.1 y.1.2.2.2.2.1 y.1.2.2.2.2.2.1 y.1.2.2.2.2.2.2.1 y.1.2.2.2.2.2.2.2.1 y.1.2.2.2.2.2.2.2.2.1 y.1.2.2.2.2.2.2.2.2.2.1 y.1.2.2.2.2.2.2.2.2.2.2.1 y.1.2.2.2.2.2.2.2.2.2.2.2.1 y.1.2.2.2.2.2.2.2.2.2.2.2.2.1 y.1.2.2.2.2.2.2.2.2.2.2.2.2.2.1 y.1.2.2.2.2.2.2.2.2.2.2.2.2.2.2.1 y.1.2.2.2.2.2.2.2.2.2.2.2.2.2.2.2.1 y.1.2.2.2.2.2.2.2.2.2.2.2.2.2.2.2.2.1 y.1.2.2.2.2.2.2.2.2.2.2.2.2.2.2.2.2.2.1 (fun u0 u1 u2 u3 u4 u5 u6 u7 u8 u9 u10 u11 u12 u13 u14 u15 u16 u17 u18 => K (u0, ()) ((u1, (u2, (u3, (u4, (u5, (u6, (u7, (u8, (u9, (u10, (u11, (u12, (u13, (u14, (u15, (u16, (u17, (u18, ())))))))))))))))))), ()))⟩
def Ifoot_reader_rule_1 : Inst := Jfoot_reader_rule_1 Xfoot_reader_rule_1
theorem Efoot_reader_rule_1 (xstrings_CutPrefix : (ByteArray) → (ByteArray) → ((ByteArray) → (Bool) → Prop) → Prop) (xrule_Parse : (ByteArray) → ((Int × Int × Int × Int × Int × Unit) → (ByteArray) → (Bool) → Prop) → Prop) (x : PL.T (.cons (.ptr 0 0) (.cons (.ptr 0 13) .nil))) (y : PH.T (.cons 0 (.cells [.str, .int .i64, .bool, .str, .int .i64, .bool, .str, .bool, .int .i64, .int .i64, .int .i64, .int .i64, .int .i64, .int .i64, .int .i64, .int .i64, .int .i64, .int .i64] (.cons .str (.cons (.int .i64) (.cons .bool (.cons .str (.cons (.int .i64) (.cons .bool (.cons .str (.cons .bool (.cons (.int .i64) (.cons (.int .i64) (.cons (.int .i64) (.cons (.int .i64) (.cons (.int .i64) (.cons (.int .i64) (.cons (.int .i64) (.cons (.int .i64) (.cons (.int .i64) (.cons (.int .i64) .nil))))))))))))))))))) .nil)) (K : PL.T (.cons .bool .nil) → PH.T (.cons 0 (.cells [.str, .int .i64, .bool, .str, .int .i64, .bool, .str, .bool, .int .i64, .int .i64, .int .i64, .int .i64, .int .i64, .int .i64, .int .i64, .int .i64, .int .i64, .int .i64] (.cons .str (.cons (.int .i64) (.cons .bool (.cons .str (.cons (.int .i64) (.cons .bool (.cons .str (.cons .bool (.cons (.int .i64) (.cons (.int .i64) (.cons (.int .i64) (.cons (.int .i64) (.cons (.int .i64) (.cons (.int .i64) (.cons (.int .i64) (.cons (.int .i64) (.cons (.int .i64) (.cons (.int .i64) .nil))))))))))))))))))) .nil) → Prop) : Yfoot_reader_rule_1 xstrings_CutPrefix xrule_Parse y.1.1 y.1.2.1 y.1.2.2.1 y.1.2.2.2.1 y.1.2.2.2.2.1 y.1.2.2.2.2.2.1 y.1.2.2.2.2.2.2.1 y.1.2.2.2.2.2.2.2.1 y.1.2.2.2.2.2.2.2.2.1 y.1.2.2.2.2.2.2.2.2.2.1 y.1.2.2.2.2.2.2.2.2.2.2.1 y.1.2.2.2.2.2.2.2.2.2.2.2.1 y.1.2.2.2.2.2.2.2.2.2.2.2.2.1 y.1.2.2.2.2.2.2.2.2.2.2.2.2.2.1 y.1.2.2.2.2.2.2.2.2.2.2.2.2.2.2.1 y.1.2.2.2.2.2.2.2.2.2.2.2.2.2.2.2.1 y.1.2.2.2.2.2.2.2.2.2.2.2.2.2.2.2.2.1 y.1.2.2.2.2.2.2.2.2.2.2.2.2.2.2.2.2.2.1 (fun u0 u1 u2 u3 u4 u5 u6 u7 u8 u9 u10 u11 u12 u13 u14 u15 u16 u17 u18 => K (u0, ()) ((u1, (u2, (u3, (u4, (u5, (u6, (u7, (u8, (u9, (u10, (u11, (u12, (u13, (u14, (u15, (u16, (u17, (u18, ())))))))))))))))))), ())) = bodyC (envP Tryz.prog 30 gives ⟨tabC [Jstrings_CutPrefix xstrings_CutPrefix, Jrule_Parse xrule_Parse], tabL []⟩) Tryz.f50 (Tryz.f50.body.getD .skip) (PL.enc (.cons (.ptr 0 0) (.cons (.ptr 0 13) .nil)) x) (PH.enc (.cons 0 (.cells [.str, .int .i64, .bool, .str, .int .i64, .bool, .str, .bool, .int .i64, .int .i64, .int .i64, .int .i64, .int .i64, .int .i64, .int .i64, .int .i64, .int .i64, .int .i64] (.cons .str (.cons (.int .i64) (.cons .bool (.cons .str (.cons (.int .i64) (.cons .bool (.cons .str (.cons .bool (.cons (.int .i64) (.cons (.int .i64) (.cons (.int .i64) (.cons (.int .i64) (.cons (.int .i64) (.cons (.int .i64) (.cons (.int .i64) (.cons (.int .i64) (.cons (.int .i64) (.cons (.int .i64) .nil))))))))))))))))))) .nil) y) (resK (.cons .bool .nil) (.cons 0 (.cells [.str, .int .i64, .bool, .str, .int .i64, .bool, .str, .bool, .int .i64, .int .i64, .int .i64, .int .i64, .int .i64, .int .i64, .int .i64, .int .i64, .int .i64, .int .i64] (.cons .str (.cons (.int .i64) (.cons .bool (.cons .str (.cons (.int .i64) (.cons .bool (.cons .str (.cons .bool (.cons (.int .i64) (.cons (.int .i64) (.cons (.int .i64) (.cons (.int .i64) (.cons (.int .i64) (.cons (.int .i64) (.cons (.int .i64) (.cons (.int .i64) (.cons (.int .i64) (.cons (.int .i64) .nil))))))))))))))))))) .nil) K) := by kernel_rfl
theorem Ifoot_reader_rule_1_ok : InstOk Tryz.prog G.1 Ifoot_reader_rule_1 := inst_ok (gives := gives) (is := [Istrings_CutPrefix, Irule_Parse]) [] (okCons Istrings_CutPrefix_ok (okCons Irule_Parse_ok okNil)) 30 follows Tryz.func50 (by kernel_rfl) (fun x => by kernel_rfl) (fun x y K => Efoot_reader_rule_1 Xstrings_CutPrefix Xrule_Parse x y K)

end Go.Proofs.YtcopbcfekmbhlaaGreatDoor
end
