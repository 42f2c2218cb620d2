/- What the functions come to in plain data, with proofs, and what that answers. -/
import Derived.Test.YtoiiblhbojhogaaDoorE2
import Derived.Shelf.Strings.Builder1
import Derived.Shelf.Strings.Builder2
import Derived.Shelf.Strings.OnBuilder
import Derived.Shelf.Strconv.Itoa0
import Derived.Shelf.Strconv.Itoa1
import Derived.Shelf.LaysM
import Derived.Shelf.Strconv.Itoa2
import Derived.Shelf.Strconv.Itoa3
import Derived.Shelf.Strings.Search1
import Derived.Shelf.Strings.Search2
import Derived.Shelf.Strings.Search3
import Derived.Shelf.Strings.Cut
import Derived.Shelf.Strings.Count
import Derived.Shelf.Strings.Shaped
import Derived.Shelf.Strings.Prefix
import Derived.Shelf.Bits.Mul64
import Derived.Shelf.Unicode.DecodeSlow
import Derived.Test.YtoiiblhbojhogaaDoorProg
import Derived.Below
import Derived.KernelRfl
import Derived.Lib.AppendIntMem
import Derived.Lib.ItoaMem
import Derived.Lib.ItoaNum
import Derived.Lib.Join
import Derived.Lib.LaidTab
import Derived.Lib.Strings
import Derived.Lib.Atoi
import Derived.Laws.Concat
import Derived.Laws.RangeString
import Derived.Laws.RangeAny
import Derived.Lib.Bytealg
section
set_option linter.unusedVariables false
set_option linter.unusedSimpArgs false
namespace Go.Proofs
open Go.Shelf
def Tryd.lays156_ren : Go.Shelf.Ren := ⟨fun | 156 => 48 | 165 => 70 | 166 => 71 | 169 => 72 | 240 => 90 | 241 => 91 | 276 => 110 | 277 => 111 | n => n, fun | 31 => 35 | 9 => 9 | 3 => 3 | 4 => 4 | 0 => 0 | 20 => 20 | 72 => 113 | 76 => 117 | 70 => 111 | 37 => 65 | 75 => 116 | 127 => 136 | 164 => 157 | 5 => 5 | 80 => 69 | n => n, fun | n => n⟩
theorem Tryd.lays156 : Go.Proofs.Lays.n156 Tryd.prog Tryd.lays156_ren := {
  mixed := by kernel_rfl
  f156 := Tryd.func48.trans (congrArg some (by kernel_rfl))
  f165 := Tryd.func70.trans (congrArg some (by kernel_rfl))
  f166 := Tryd.func71.trans (congrArg some (by kernel_rfl))
  f169 := Tryd.func72.trans (congrArg some (by kernel_rfl))
  f240 := Tryd.func90.trans (congrArg some (by kernel_rfl))
  f241 := Tryd.func91.trans (congrArg some (by kernel_rfl))
  f276 := Tryd.func110.trans (congrArg some (by kernel_rfl))
  f277 := Tryd.func111.trans (congrArg some (by kernel_rfl))
  t0 := Tryd.underlying0
  a0 := Tryd.isAgg0
  z0 := Tryd.sizeOf0
  v0 := Tryd.zeroValue0
  t3 := Tryd.underlying3
  a3 := Tryd.isAgg3
  z3 := Tryd.sizeOf3
  v3 := Tryd.zeroValue3
  t4 := Tryd.underlying4
  a4 := Tryd.isAgg4
  z4 := Tryd.sizeOf4
  v4 := Tryd.zeroValue4
  t9 := Tryd.underlying9
  a9 := Tryd.isAgg9
  z9 := Tryd.sizeOf9
  v9 := Tryd.zeroValue9
  t20 := Tryd.underlying20
  a20 := Tryd.isAgg20
  z20 := Tryd.sizeOf20
  v20 := Tryd.zeroValue20
  t31 := Tryd.underlying35
  a31 := Tryd.isAgg35
  z31 := Tryd.sizeOf35
  v31 := Tryd.zeroValue35
  t37 := Tryd.underlying65
  a37 := Tryd.isAgg65
  z37 := Tryd.sizeOf65
  v37 := Tryd.zeroValue65
  t70 := Tryd.underlying111
  a70 := Tryd.isAgg111
  z70 := Tryd.sizeOf111
  v70 := Tryd.zeroValue111
  t72 := Tryd.underlying113
  a72 := Tryd.isAgg113
  z72 := Tryd.sizeOf113
  v72 := Tryd.zeroValue113
  t75 := Tryd.underlying116
  a75 := Tryd.isAgg116
  z75 := Tryd.sizeOf116
  v75 := Tryd.zeroValue116
  t76 := Tryd.underlying117
  a76 := Tryd.isAgg117
  z76 := Tryd.sizeOf117
  v76 := Tryd.zeroValue117
  t127 := Tryd.underlying136
  a127 := Tryd.isAgg136
  z127 := Tryd.sizeOf136
  v127 := Tryd.zeroValue136
  t164 := Tryd.underlying157
  a164 := Tryd.isAgg157
  z164 := Tryd.sizeOf157
  v164 := Tryd.zeroValue157 }
theorem Tryd.Builder_Extra_156 : Builder.Extra Tryd.prog Tryd.lays156_ren := {
  sizeBuilder := by kernel_rfl
  liesBuilder := by kernel_rfl
  t5 := Tryd.underlying5
  a5 := Tryd.isAgg5
  z5 := Tryd.sizeOf5
  v5 := Tryd.zeroValue5
  infoByte := by kernel_rfl
  cellsByte := by kernel_rfl
  sizeByte := by kernel_rfl
  neB5 := by decide }
open Go.RowKit in
/-- No element: the empty string; the world is as it was. (Whatever the slice's address and capacity: a nil slice too.) (LAID: no walk: one application.) -/
theorem Tryd.strings_Join_none (a : Option Addr) (c : Nat) (sep : ByteArray) (w : World) :
    Calls Tryd.prog 48 #[.slice a 0 c, .string sep] w fun e w' => e = .returned (.string ⟨#[]⟩) ∧ w' = w := Any.strings_Join_none Tryd.lays156 Tryd.Builder_Extra_156 a c sep w
open Go.RowKit in
/-- strings.Join: "Join concatenates the elements of its first argument to create a single string. The separator string sep is placed between elements in the resulting string.": HOWEVER MANY ELEMENTS. Below the heap's end the world is as it was. (LAID: no walk: one application.) -/
theorem Tryd.strings_Join (bk o c : Nat) (xs : List ByteArray) (sep : ByteArray) (w : World) (hcells : ∀ (j : Nat) x, xs[j]? = some x → w.cell? ⟨bk, o + j, none⟩ = some (.string x)) (hbk : bk < w.heap.size) (hN : xs.length ≤ 140737488355328) (hcap : xs.length ≤ c) (hlen : (Lib.join (xs.map (·.data.toList)) sep.data.toList).length ≤ 140737488355328) :
    Calls Tryd.prog 48 #[.slice (some ⟨bk, o, none⟩) xs.length c, .string sep] w fun e w' => e = .returned (.string ⟨(Lib.join (xs.map (·.data.toList)) sep.data.toList).toArray⟩) ∧ Below w.heap.size w w' := Any.strings_Join Tryd.lays156 Tryd.Builder_Extra_156 bk o c xs sep w hcells hbk hN hcap hlen
def Tryd.laysM171_ren : Go.Shelf.Ren := ⟨fun | 171 => 38 | 243 => 63 | 246 => 85 | 283 => 103 | 284 => 104 | 285 => 105 | 286 => 106 | 129 => 116 | 317 => 115 | 318 => 117 | 319 => 118 | 320 => 119 | 337 => 120 | 338 => 121 | n => n, fun | 3 => 3 | 9 => 9 | 2 => 2 | 4 => 4 | 171 => 147 | 0 => 0 | 53 => 133 | 37 => 65 | 5 => 5 | 173 => 150 | 212 => 163 | 51 => 49 | 20 => 20 | 213 => 164 | 46 => 86 | 232 => 171 | 233 => 172 | n => n, fun | 17 => 1 | 18 => 4 | 19 => 5 | n => n⟩
theorem Tryd.laysM171 : Go.Proofs.LaysM.n171 Tryd.prog Tryd.laysM171_ren := {
  mixed := by kernel_rfl
  f129 := Tryd.func116.trans (congrArg some (by kernel_rfl))
  f171 := Tryd.func38.trans (congrArg some (by kernel_rfl))
  f243 := Tryd.func63.trans (congrArg some (by kernel_rfl))
  f246 := Tryd.func85.trans (congrArg some (by kernel_rfl))
  f283 := Tryd.func103.trans (congrArg some (by kernel_rfl))
  f284 := Tryd.func104.trans (congrArg some (by kernel_rfl))
  f285 := Tryd.func105.trans (congrArg some (by kernel_rfl))
  f286 := Tryd.func106.trans (congrArg some (by kernel_rfl))
  f317 := Tryd.func115.trans (congrArg some (by kernel_rfl))
  f318 := Tryd.func117.trans (congrArg some (by kernel_rfl))
  f319 := Tryd.func118.trans (congrArg some (by kernel_rfl))
  f320 := Tryd.func119.trans (congrArg some (by kernel_rfl))
  f337 := Tryd.func120.trans (congrArg some (by kernel_rfl))
  f338 := Tryd.func121.trans (congrArg some (by kernel_rfl))
  t0 := Tryd.underlying0
  a0 := Tryd.isAgg0
  z0 := Tryd.sizeOf0
  v0 := Tryd.zeroValue0
  t2 := Tryd.underlying2
  a2 := Tryd.isAgg2
  z2 := Tryd.sizeOf2
  v2 := Tryd.zeroValue2
  t3 := Tryd.underlying3
  a3 := Tryd.isAgg3
  z3 := Tryd.sizeOf3
  v3 := Tryd.zeroValue3
  t4 := Tryd.underlying4
  a4 := Tryd.isAgg4
  z4 := Tryd.sizeOf4
  v4 := Tryd.zeroValue4
  t5 := Tryd.underlying5
  a5 := Tryd.isAgg5
  z5 := Tryd.sizeOf5
  v5 := Tryd.zeroValue5
  t9 := Tryd.underlying9
  a9 := Tryd.isAgg9
  z9 := Tryd.sizeOf9
  v9 := Tryd.zeroValue9
  t20 := Tryd.underlying20
  a20 := Tryd.isAgg20
  z20 := Tryd.sizeOf20
  v20 := Tryd.zeroValue20
  t37 := Tryd.underlying65
  a37 := Tryd.isAgg65
  z37 := Tryd.sizeOf65
  v37 := Tryd.zeroValue65
  t46 := Tryd.underlying86
  a46 := Tryd.isAgg86
  z46 := Tryd.sizeOf86
  v46 := Tryd.zeroValue86
  t51 := Tryd.underlying49
  a51 := Tryd.isAgg49
  z51 := Tryd.sizeOf49
  v51 := Tryd.zeroValue49
  t53 := Tryd.underlying133
  a53 := Tryd.isAgg133
  z53 := Tryd.sizeOf133
  v53 := Tryd.zeroValue133
  t171 := Tryd.underlying147
  a171 := Tryd.isAgg147
  z171 := Tryd.sizeOf147
  v171 := Tryd.zeroValue147
  t173 := Tryd.underlying150
  a173 := Tryd.isAgg150
  z173 := Tryd.sizeOf150
  v173 := Tryd.zeroValue150
  t212 := Tryd.underlying163
  a212 := Tryd.isAgg163
  z212 := Tryd.sizeOf163
  v212 := Tryd.zeroValue163
  t213 := Tryd.underlying164
  a213 := Tryd.isAgg164
  z213 := Tryd.sizeOf164
  t232 := Tryd.underlying171
  a232 := Tryd.isAgg171
  z232 := Tryd.sizeOf171
  v232 := Tryd.zeroValue171
  t233 := Tryd.underlying172
  a233 := Tryd.isAgg172
  z233 := Tryd.sizeOf172
  v233 := Tryd.zeroValue172
  g17 := by kernel_rfl
  g18 := by kernel_rfl
  g19 := by kernel_rfl
  i0 := by kernel_rfl
  i2 := by kernel_rfl
  i3 := by kernel_rfl
  i4 := by kernel_rfl
  i5 := by kernel_rfl
  i9 := by kernel_rfl
  i20 := by kernel_rfl
  i37 := by kernel_rfl
  i46 := by kernel_rfl
  i51 := by kernel_rfl
  i53 := by kernel_rfl
  i171 := by kernel_rfl
  i173 := by kernel_rfl
  i212 := by kernel_rfl
  i232 := by kernel_rfl
  i233 := by kernel_rfl
  m17 := by kernel_rfl
  m18 := by kernel_rfl
  m19 := by kernel_rfl }
open Go.RowKit Go.Sort Go.Lib in
/-- strconv.Itoa: "Itoa is equivalent to FormatInt(int64(i), 10).": i's DECIMAL NUMERAL ('Lib.itoa': a '-' where i is negative, then the digits), FOR EVERY int. The world behind the call: the world before it, new blocks behind the heap (the library's 'var a [24]byte'), draws. (LAID: no walk: one application.) -/
theorem Tryd.strconv_Itoa (n : Int) (h0 : -9223372036854775808 ≤ n) (h1 : n ≤ 9223372036854775807) (w : World) (htab : Lib.TabIs Tryd.prog w "internal/strconv.uint64pow10" .u64 Lib.pow10Tab) :
    Calls Tryd.prog 38 #[.int .i64 n] w fun e w' => e = .returned (.string ⟨(Lib.itoa n).toArray⟩) ∧ ∃ k os, w' = grow (w.drewN k) os := Any.strconv_Itoa Tryd.laysM171 n h0 h1 w htab
def Tryd.lays217_ren : Go.Shelf.Ren := ⟨fun | 217 => 94 | 266 => 112 | n => n, fun | 9 => 9 | 5 => 5 | 3 => 3 | n => n, fun | n => n⟩
theorem Tryd.lays217 : Go.Proofs.Lays.n217 Tryd.prog Tryd.lays217_ren := {
  mixed := by kernel_rfl
  f217 := Tryd.func94.trans (congrArg some (by kernel_rfl))
  f266 := Tryd.func112.trans (congrArg some (by kernel_rfl))
  t3 := Tryd.underlying3
  a3 := Tryd.isAgg3
  z3 := Tryd.sizeOf3
  v3 := Tryd.zeroValue3
  t5 := Tryd.underlying5
  a5 := Tryd.isAgg5
  z5 := Tryd.sizeOf5
  v5 := Tryd.zeroValue5
  t9 := Tryd.underlying9
  a9 := Tryd.isAgg9
  z9 := Tryd.sizeOf9
  v9 := Tryd.zeroValue9 }
open Go.RowKit Go.Lib in
/-- internal/stringslite.IndexByte (what strings.IndexByte calls): IT RETURNS 'Lib.indexByte s c'; the world is as it was. (LAID: no walk: one application.) -/
theorem Tryd.stringslite_IndexByte (s : ByteArray) (c : Int) (w : World) :
    Calls Tryd.prog 94 #[.string s, .int .u8 c] w fun e w' => e = .returned (.int .i64 (Lib.indexByte s.data.toList c.toNat.toUInt8)) ∧ w' = w := Any.stringslite_IndexByte Tryd.lays217 s c w
def Tryd.lays138_ren : Go.Shelf.Ren := ⟨fun | 138 => 82 | 195 => 100 | 218 => 102 | 143 => 83 | 219 => 76 | 217 => 94 | 225 => 95 | 224 => 96 | 267 => 97 | 266 => 112 | 314 => 113 | n => n, fun | 9 => 9 | 3 => 3 | 4 => 4 | 5 => 5 | 0 => 0 | 46 => 86 | 146 => 160 | 51 => 49 | n => n, fun | 1 => 0 | n => n⟩
theorem Tryd.lays138 : Go.Proofs.Lays.n138 Tryd.prog Tryd.lays138_ren := {
  mixed := by kernel_rfl
  f138 := Tryd.func82.trans (congrArg some (by kernel_rfl))
  f143 := Tryd.func83.trans (congrArg some (by kernel_rfl))
  f195 := Tryd.func100.trans (congrArg some (by kernel_rfl))
  f217 := Tryd.func94.trans (congrArg some (by kernel_rfl))
  f218 := Tryd.func102.trans (congrArg some (by kernel_rfl))
  f219 := Tryd.func76.trans (congrArg some (by kernel_rfl))
  f224 := Tryd.func96.trans (congrArg some (by kernel_rfl))
  f225 := Tryd.func95.trans (congrArg some (by kernel_rfl))
  f266 := Tryd.func112.trans (congrArg some (by kernel_rfl))
  f267 := Tryd.func97.trans (congrArg some (by kernel_rfl))
  f314 := Tryd.func113.trans (congrArg some (by kernel_rfl))
  t0 := Tryd.underlying0
  a0 := Tryd.isAgg0
  z0 := Tryd.sizeOf0
  v0 := Tryd.zeroValue0
  t3 := Tryd.underlying3
  a3 := Tryd.isAgg3
  z3 := Tryd.sizeOf3
  v3 := Tryd.zeroValue3
  t4 := Tryd.underlying4
  a4 := Tryd.isAgg4
  z4 := Tryd.sizeOf4
  v4 := Tryd.zeroValue4
  t5 := Tryd.underlying5
  a5 := Tryd.isAgg5
  z5 := Tryd.sizeOf5
  v5 := Tryd.zeroValue5
  t9 := Tryd.underlying9
  a9 := Tryd.isAgg9
  z9 := Tryd.sizeOf9
  v9 := Tryd.zeroValue9
  t46 := Tryd.underlying86
  a46 := Tryd.isAgg86
  z46 := Tryd.sizeOf86
  v46 := Tryd.zeroValue86
  t51 := Tryd.underlying49
  a51 := Tryd.isAgg49
  z51 := Tryd.sizeOf49
  v51 := Tryd.zeroValue49
  t146 := Tryd.underlying160
  a146 := Tryd.isAgg160
  z146 := Tryd.sizeOf160
  v146 := Tryd.zeroValue160
  g1 := by kernel_rfl }
open Go.RowKit Go.Lib in
/-- strings.Count AT A substr OF ONE BYTE ('hp'): "Count counts the number of non-overlapping instances of substr in s.": IT RETURNS 'Lib.countByte s (that byte)'; the world is as it was. ✋ NO CONTRACT HERE YET at an empty substr (utf8.RuneCountInString) or at a longer one (a loop over strings.Index). (LAID: no walk: one application.) -/
theorem Tryd.strings_Count_one (s : ByteArray) (c : UInt8) (w : World) :
    Calls Tryd.prog 82 #[.string s, .string ⟨#[c]⟩] w fun e w' => e = .returned (.int .i64 (Lib.countByte s.data.toList c)) ∧ w' = w := Any.strings_Count_one Tryd.lays138 s c w
end Go.Proofs
end
section
set_option linter.unusedVariables false
set_option linter.unusedSimpArgs false
namespace Go.Proofs.YtoiiblhbojhogaaDoor
open Go Go.Proofs.YtoiiblhbojhogaaDoor.Eng Go.RowKit
set_option linter.unusedVariables false
def gives : FuncId → Bool := fun g => Nat.beq g 54
theorem follows : Tryd.prog.follows .mixedOrders = true := by kernel_rfl
/-- Objects of memory that stay as they are, and hold a table. -/
abbrev Gs := {l : List (Nat × Obj) // ∀ w : World, (∀ x ∈ l, w.heap[x.1]? = some x.2) → Lib.TabIs Tryd.prog w "internal/strconv.uint64pow10" .u64 Lib.pow10Tab}
variable {G : Gs}

abbrev Titoa : Type := Int → (ByteArray → Prop) → Prop
abbrev TindexByte : Type := ByteArray → Int → (Int → Prop) → Prop
def Xitoa (n : Int) (K : ByteArray → Prop) : Prop := (-9223372036854775808 ≤ n ∧ n ≤ 9223372036854775807) ∧ K ⟨(Lib.itoa n).toArray⟩
def Jitoa (X : Int → (ByteArray → Prop) → Prop) : Inst := ⟨38, (.cons (.int .i64) .nil), .nil, (.cons .str .nil), .nil, fun x y K => X x.1 (fun u0 => K (u0, ()) ())⟩
def Iitoa : Inst := Jitoa Xitoa
theorem Iitoa_ok : InstOk Tryd.prog G.1 Iitoa := fun ⟨n, _⟩ y K ⟨h1, h3⟩ =>
  (told (args := [.int .i64 n]) (rs := [.string ⟨(Lib.itoa n).toArray⟩]) rfl fun w hw => (Tryd.strconv_Itoa n h1.1 h1.2 w (G.2 w hw)).mono fun e w' ⟨he, k, os, hw⟩ => ⟨he, by subst hw; exact Lib.below_grow _ _ (Nat.le_refl _) _ _⟩).mono fun rs h' ⟨e1, e2⟩ => ⟨(⟨(Lib.itoa n).toArray⟩, ()), (), e1, e2, h3⟩
def XindexByte (s : ByteArray) (c : Int) (K : Int → Prop) : Prop := K (Lib.indexByte s.data.toList c.toNat.toUInt8)
def JindexByte (X : ByteArray → Int → (Int → Prop) → Prop) : Inst := ⟨94, (.cons .str (.cons (.int .u8) .nil)), .nil, (.cons (.int .i64) .nil), .nil, fun x y K => X x.1 x.2.1 (fun u0 => K (u0, ()) ())⟩
def IindexByte : Inst := JindexByte XindexByte
theorem IindexByte_ok : InstOk Tryd.prog G.1 IindexByte := fun ⟨s, c, _⟩ y K h3 =>
  (told (args := [.string s, .int .u8 c]) (rs := [.int .i64 (Lib.indexByte s.data.toList c.toNat.toUInt8)]) rfl fun w _ => (Tryd.stringslite_IndexByte s c w).mono fun e w' ⟨he, hw⟩ => ⟨he, by subst hw; exact Below.refl _ _⟩).mono fun rs h' ⟨e1, e2⟩ => ⟨(_, ()), (), e1, e2, h3⟩
abbrev Tjoin : Type := List V → ByteArray → (ByteArray → Prop) → Prop
abbrev Tcount : Type := ByteArray → ByteArray → (Int → Prop) → Prop
def cs (b : ByteArray) : V := .c (.string b)
def Xcount (s sep : ByteArray) (K : Int → Prop) : Prop := ∃ c, sep = ⟨#[c]⟩ ∧ K (Lib.countByte s.data.toList c)
def Jcount (X : Tcount) : Inst := ⟨82, (.cons .str (.cons .str .nil)), .nil, (.cons (.int .i64) .nil), .nil, fun x y K => X x.1 x.2.1 (fun u0 => K (u0, ()) ())⟩
def Icount : Inst := Jcount Xcount
theorem Icount_ok : InstOk Tryd.prog G.1 Icount := fun ⟨s, sep, _⟩ y K ⟨c, hc, h3⟩ =>
  (told (args := [.string s, .string sep]) (rs := [.int .i64 (Lib.countByte s.data.toList c)]) rfl fun w _ => by
    subst hc
    exact (Tryd.strings_Count_one s c w).mono fun e w' ⟨he, hw⟩ => ⟨he, by subst hw; exact Below.refl _ _⟩).mono fun rs h' ⟨e1, e2⟩ => ⟨(_, ()), (), e1, e2, h3⟩
def Xjoin (xs : List V) (sep : ByteArray) (K : ByteArray → Prop) : Prop := ∃ bs : List ByteArray, xs = bs.map cs ∧ bs.length ≤ 1000000 ∧ (Lib.join (bs.map (·.data.toList)) sep.data.toList).length ≤ 100000000 ∧ K ⟨(Lib.join (bs.map (·.data.toList)) sep.data.toList).toArray⟩
def Jjoin (X : Tjoin) : Inst := ⟨48, (.cons (.slN 1) (.cons .str .nil)), .nil, (.cons .str .nil), .nil, fun x y K => X x.1 x.2.1 (fun u0 => K (u0, ()) ())⟩
def Ijoin : Inst := Jjoin Xjoin
theorem Ijoin_ok : InstOk Tryd.prog G.1 Ijoin := fun ⟨xs, sep, _⟩ y K ⟨bs, hx, hn, hl, hk⟩ w F ρ vs hG hlen hv hh => by
  subst hx
  have hl2 : vs.size = 2 := by
    have : 2 = vs.size := by simpa [Ijoin, Jjoin, PL.enc] using hlen
    omega
  have hl : (Lib.join (bs.map (·.data.toList)) sep.data.toList).length ≤ 100000000 := hl
  obtain ⟨v0, v1, rfl⟩ : ∃ v0 v1, vs = #[v0, v1] := by
    obtain ⟨l⟩ := vs
    match l, hl2 with
    | [a, b], _ => exact ⟨a, b, rfl⟩
  have h0 := hv 0 _ v0 rfl rfl
  have h1 := hv 1 _ v1 rfl rfl
  have h1' : v1 = .string sep := by
    have h1 : VR _ F ρ (.c (.string sep)) v1 := h1
    cases h1; rfl
  subst h1'
  have h0 : VR (clOf w) F ρ (.sl 1 false (bs.map cs)) v0 := h0
  cases h0 with
  | @sl _ _ _ a n cap g p cf hnn hc hf ha hw hF hvv =>
    have hnn' : n = bs.length := by rw [hnn, List.length_map]
    have key : Calls Tryd.prog 48 #[.slice a n cap, .string sep] w fun e w' => e = .returned (.string ⟨(Lib.join (bs.map (·.data.toList)) sep.data.toList).toArray⟩) ∧ Below w.heap.size w w' := by
      cases bs with
      | nil =>
        have : n = 0 := hnn'
        subst this
        exact (Tryd.strings_Join_none a cap sep w).mono fun e w' ⟨he, hw⟩ => ⟨he, by subst hw; exact Below.refl _ _⟩
      | cons b0 bs0 =>
        have ha' : a = some ⟨g, p, none⟩ := ha.resolve_left (by rw [hnn'] at hc; simp at hc; omega)
        subst ha'; subst hnn'
        have cell : ∀ (j : Nat) x, (b0 :: bs0)[j]? = some x → F g (p + j) ∧ w.cell? ⟨g, p + j, none⟩ = some (.string x) := by
          intro j x hj
          have hj' : ((b0 :: bs0).map cs)[j]? = some (cs x) := by rw [List.getElem?_map, hj]; rfl
          obtain ⟨q1, q2, q3⟩ := hF j (cs x) 0 hj' (by decide)
          have q4 := hvv j (cs x) 0 (cs x) hj' rfl
          rw [Nat.mul_one, Nat.add_zero] at q1 q2
          refine ⟨q1, ?_⟩
          have q5 : VR (clOf w) F ρ (.c (.string x)) (cf j 0) := q4
          generalize cf j 0 = z at q2 q5
          cases q5
          exact q2
        have hg : g < w.heap.size := hh.fin g (p + 0) (cell 0 b0 rfl).1
        exact Tryd.strings_Join g p cap (b0 :: bs0) sep w (fun j x hj => (cell j x hj).2) hg (by omega) hc (by omega)
    refine key.mono fun e w' ⟨he, hb⟩ => ?_
    exact ⟨_, [.c (.string ⟨(Lib.join (bs.map (·.data.toList)) sep.data.toList).toArray⟩)], [], F, ρ, he, .c rfl, back_below hb hh, (⟨(Lib.join (bs.map (·.data.toList)) sep.data.toList).toArray⟩, ()), (), rfl, rfl, hk⟩
/-- Where the table stands in memory, it stays. -/
theorem gs_of {w : World} (h : Lib.TabIs Tryd.prog w "internal/strconv.uint64pow10" .u64 Lib.pow10Tab) : ∃ G : Gs, ∀ x ∈ G.1, w.heap[x.1]? = some x.2 := by
  unfold Lib.TabIs World.var? at h
  cases hg : Tryd.prog.globalNamed "internal/strconv.uint64pow10" with
  | none => rw [hg] at h; cases h
  | some g =>
    rw [hg] at h
    simp only [Option.bind_some] at h
    cases ho : w.heap[g]? with
    | none => rw [ho] at h; cases h
    | some o =>
      rw [ho] at h
      refine ⟨⟨[(g, o)], fun w' hw => ?_⟩, fun x hx => ?_⟩
      · have := hw (g, o) (.head _)
        unfold Lib.TabIs World.var?
        rw [hg]
        simp only [Option.bind_some, this]
        exact h
      · simp only [List.mem_singleton] at hx
        subst hx; exact ho
theorem globN : Tryd.prog.globalNamed "internal/strconv.uint64pow10" = some 1 := by kernel_rfl
end Go.Proofs.YtoiiblhbojhogaaDoor
end
section
set_option linter.unusedVariables false
set_option linter.unusedSimpArgs false
namespace Go.Proofs.YtoiiblhbojhogaaDoor
open Go Go.Proofs.YtoiiblhbojhogaaDoor.Eng
set_option linter.unusedVariables false
set_option maxRecDepth 100000
set_option maxHeartbeats 4000000
variable {G : Gs}
abbrev pL0 : PL := (.cons .str (.cons .str .nil))
abbrev pL1 : PL := (.cons (.int .i64) .nil)
abbrev Q2 : Type := (ByteArray × ByteArray × Int × Int × Unit × Unit × Int × Unit) × List Eng.V × Unit
abbrev pT3 : PT := (.cons 0 .str (.cons 1 .str (.cons 2 (.int .i64) (.cons 3 (.int .i64) (.cons 8 (.nl 0) (.cons 9 (.sla 560) (.cons 10 (.int .i64) .nil)))))))
abbrev pH4 : PH := (.cons 560 (.arr 1 true false) .nil)
abbrev pL5 : PL := (.cons .str (.cons .str (.cons (.int .i64) (.cons (.int .i64) .nil))))
abbrev pL6 : PL := (.cons (.sla 0) .nil)
abbrev pH7 : PH := (.cons 0 (.arrB 1) .nil)
abbrev pL8 : PL := (.cons .bool .nil)
abbrev pL9 : PL := (.cons .str .nil)
abbrev Q10 : Type := (Unit × Unit × Int × Int × Unit) × (List Eng.V × Bool × Bool) × Unit
abbrev pT11 : PT := (.cons 2 (.nl 0) (.cons 3 (.sla 176) (.cons 20 (.int .i64) (.cons 21 (.int .i64) .nil))))
abbrev pH12 : PH := (.cons 176 (.arrB 1) .nil)
abbrev Q13 : Type := (Unit × Nat × Int × Int × Unit) × (List Eng.V × Bool × Bool) × Unit
abbrev pT14 : PT := (.cons 2 (.nl 0) (.cons 3 (.slh 176) (.cons 20 (.int .i64) (.cons 21 (.int .i64) .nil))))
abbrev pL15 : PL := (.cons .str (.cons .str (.cons .bool .nil)))
abbrev Q16 : Type := (ByteArray × Unit × Int × Unit × Unit) × (ByteArray × Nat) × List Eng.V × Unit
abbrev pT17 : PT := (.cons 0 .str (.cons 2 (.sla 736) (.cons 3 (.int .i64) (.cons 9 (.it 208) .nil))))
abbrev pH18 : PH := (.cons 208 .iter (.cons 736 (.arr 1 true false) .nil))
abbrev Q19 : Type := (ByteArray × Unit × Unit × Int × Int × Unit) × List Eng.V × Unit
abbrev pT20 : PT := (.cons 2 .str (.cons 3 (.sla 176) (.cons 8 (.sla 176) (.cons 9 (.int .i64) (.cons 10 (.int .i64) .nil)))))
abbrev pH21 : PH := (.cons 176 (.arr 1 true false) .nil)
abbrev pL22 : PL := (.cons (.int .u64) .nil)
abbrev pL23 : PL := (.cons (.int .u64) (.cons (.int .u64) .nil))
abbrev pL24 : PL := (.cons (.int .i64) (.cons (.int .i64) .nil))
abbrev pL25 : PL := (.cons (.int .i64) (.cons .bool .nil))
abbrev Q26 : Type := (ByteArray × Int × Bool × Unit × Int × Int × Unit) × List Eng.V × Unit
abbrev pT27 : PT := (.cons 0 .str (.cons 2 (.int .i64) (.cons 3 .bool (.cons 11 (.sla 240) (.cons 12 (.int .i64) (.cons 13 (.int .i64) .nil))))))
abbrev pH28 : PH := (.cons 240 (.arr 1 true false) .nil)
abbrev Q29 : Type := ByteArray × ByteArray × ByteArray × ByteArray × ByteArray × ByteArray × ByteArray × ByteArray × ByteArray × ByteArray × ByteArray × ByteArray × Unit
abbrev pL30 : PL := (.cons (.agg (.cons .str (.cons .str (.cons .str (.cons .str (.cons .str (.cons .str (.cons .str (.cons .str (.cons .str (.cons .str (.cons .str (.cons .str .nil))))))))))))) .nil)
abbrev Q31 : Type := (Int × Bool × ByteArray × (ByteArray × ByteArray × ByteArray × ByteArray × ByteArray × ByteArray × ByteArray × ByteArray × ByteArray × ByteArray × ByteArray × ByteArray × Unit) × Int × Unit) × Unit
abbrev pT32 : PT := (.cons 2 (.int .i64) (.cons 3 .bool (.cons 4 .str (.cons 9 (.agg (.cons .str (.cons .str (.cons .str (.cons .str (.cons .str (.cons .str (.cons .str (.cons .str (.cons .str (.cons .str (.cons .str (.cons .str .nil))))))))))))) (.cons 10 (.int .i64) .nil)))))
abbrev pL33 : PL := (.cons .str (.cons .str (.cons (.int .i64) .nil)))
abbrev pL34 : PL := (.cons (.int .i64) (.cons (.int .i64) (.cons (.int .i64) .nil)))
abbrev Q35 : Type := (Int × Bool × Unit × Unit × Int × Int × Unit) × List Eng.V × (List Eng.V × Bool × Bool) × Unit
abbrev pT36 : PT := (.cons 2 (.int .i64) (.cons 3 .bool (.cons 4 (.pea 128) (.cons 15 (.sla 240) (.cons 16 (.int .i64) (.cons 17 (.int .i64) .nil))))))
abbrev pH37 : PH := (.cons 128 (.arr 3 true false) (.cons 240 (.arrB 1) .nil))
abbrev Q38 : Type := Int × Int × Int × Int × Int × ByteArray × Bool × Unit
abbrev pL39 : PL := (.cons (.int .i64) (.cons (.slN 1) .nil))
abbrev pL40 : PL := (.cons (.agg (.cons (.int .i64) (.cons (.int .i64) (.cons (.int .i64) (.cons (.int .i64) (.cons (.int .i64) (.cons .str (.cons .bool .nil)))))))) (.cons .bool .nil))
abbrev pL41 : PL := (.cons .bool (.cons .bool .nil))
abbrev pL42 : PL := (.cons (.slN 1) .nil)
abbrev pL43 : PL := (.cons (.int .i64) (.cons (.int .i64) (.cons .bool .nil)))
abbrev pL44 : PL := (.cons (.slN 3) .nil)
abbrev pH45 : PH := (.cons 0 (.arrB 3) .nil)
abbrev pL46 : PL := (.cons (.int .i64) (.cons (.int .i64) (.cons (.int .i64) (.cons .bool .nil))))
abbrev Q47 : Type := Int × Int × Bool × Unit
abbrev pL48 : PL := (.cons (.int .i64) (.cons (.agg (.cons (.int .i64) (.cons (.int .i64) (.cons .bool .nil)))) (.cons (.int .i64) .nil)))
abbrev Q49 : Type := List Eng.V × Bool × Int × Unit
abbrev Q50 : Type := (Unit × Int × Int × Int × List Eng.V × Int × Int × Unit) × (List Eng.V × Bool × Int × Unit) × Unit
abbrev pT51 : PT := (.cons 1 (.ptr 80 0) (.cons 2 (.int .i64) (.cons 3 (.int .i64) (.cons 4 (.int .i64) (.cons 11 (.slN 3) (.cons 12 (.int .i64) (.cons 13 (.int .i64) .nil)))))))
abbrev pH52 : PH := (.cons 80 (.cells [.sl 3, .bool, .int .i64] (.cons (.slN 3) (.cons .bool (.cons (.int .i64) .nil)))) .nil)
abbrev pL53 : PL := (.cons (.agg (.cons (.slN 3) (.cons .bool (.cons (.int .i64) .nil)))) .nil)
abbrev Q54 : Type := Unit × Bool × Int × Unit
abbrev pL55 : PL := (.cons (.agg (.cons (.slN 3) (.cons .bool (.cons (.int .i64) .nil)))) (.cons (.agg (.cons (.int .i64) (.cons (.int .i64) (.cons .bool .nil)))) .nil))
abbrev pL56 : PL := (.cons (.agg (.cons (.sla 0) (.cons .bool (.cons (.int .i64) .nil)))) (.cons (.int .i64) .nil))
abbrev pL57 : PL := (.cons (.ptr 0 0) (.cons (.agg (.cons (.int .i64) (.cons (.int .i64) (.cons (.int .i64) (.cons (.int .i64) (.cons (.int .i64) (.cons .str (.cons .bool .nil)))))))) (.cons (.int .i64) .nil)))
abbrev pH58 : PH := (.cons 0 (.cells [.sl 3, .bool, .int .i64, .int .i64, .int .i64] (.cons (.slN 3) (.cons .bool (.cons (.int .i64) (.cons (.int .i64) (.cons (.int .i64) .nil)))))) .nil)
abbrev pH59 : PH := (.cons 0 (.cells [.sl 3, .bool, .int .i64, .int .i64, .int .i64] (.cons (.sla 1) (.cons .bool (.cons (.int .i64) (.cons (.int .i64) (.cons (.int .i64) .nil)))))) (.cons 1 (.arrB 3) .nil))
abbrev pL60 : PL := (.cons (.ptr 0 0) (.cons (.int .i64) (.cons (.slN 1) .nil)))
abbrev Q61 : Type := Int × Int × Unit
abbrev Q62 : Type := (Unit × Unit × Unit × Unit × Int × Int × Unit) × (List Eng.V × Bool × Int × Unit) × (Int × Int × Unit) × (List Eng.V × Bool × Int × Int × Int × Unit) × (List Eng.V × Bool × Bool) × Unit
abbrev pT63 : PT := (.cons 2 (.ptr 96 0) (.cons 3 (.ptr 112 0) (.cons 4 (.ptr 128 0) (.cons 10 (.sla 224) (.cons 11 (.int .i64) (.cons 12 (.int .i64) .nil))))))
abbrev pH64 : PH := (.cons 96 (.cells [.sl 3, .bool, .int .i64] (.cons (.slN 3) (.cons .bool (.cons (.int .i64) .nil)))) (.cons 112 (.cells [.int .i64, .int .i64] (.cons (.int .i64) (.cons (.int .i64) .nil))) (.cons 128 (.cells [.sl 3, .bool, .int .i64, .int .i64, .int .i64] (.cons (.slN 3) (.cons .bool (.cons (.int .i64) (.cons (.int .i64) (.cons (.int .i64) .nil)))))) (.cons 224 (.arrB 1) .nil))))
abbrev pL65 : PL := (.cons (.agg (.cons (.sla 0) (.cons .bool (.cons (.int .i64) .nil)))) (.cons (.agg (.cons (.int .i64) (.cons (.int .i64) .nil))) .nil))
abbrev pL66 : PL := (.cons .str (.cons (.int .i64) (.cons (.slN 1) .nil)))
abbrev Q67 : Type := (Unit × ByteArray × Unit × Int × Int × Unit) × (List Eng.V × Bool × Bool) × List Eng.V × Unit
abbrev pT68 : PT := (.cons 1 (.sla 0) (.cons 4 .str (.cons 5 (.sla 208) (.cons 6 (.int .i64) (.cons 7 (.int .i64) .nil)))))
abbrev pH69 : PH := (.cons 0 (.arrB 1) (.cons 208 (.arr 1 true false) .nil))
abbrev pL70 : PL := (.cons .str (.cons (.sla 0) .nil))
abbrev pL71 : PL := (.cons .str (.cons .bool .nil))
abbrev Q72 : Type := (Unit × ByteArray × Bool × List Eng.V × Int × Int × Unit) × (List Eng.V × Bool × Int × Unit) × Unit
abbrev pT73 : PT := (.cons 1 (.ptr 80 0) (.cons 2 .str (.cons 3 .bool (.cons 15 (.slN 3) (.cons 16 (.int .i64) (.cons 17 (.int .i64) .nil))))))
abbrev Q74 : Type := (Unit × Unit × Bool × Int × Unit) × (List Eng.V × Bool × Int × Unit) × (List Eng.V × Bool × Int × Unit) × Unit
abbrev pT75 : PT := (.cons 2 (.ptr 96 0) (.cons 3 (.ptr 112 0) (.cons 4 .bool (.cons 5 (.int .i64) .nil))))
abbrev pH76 : PH := (.cons 96 (.cells [.sl 3, .bool, .int .i64] (.cons (.slN 3) (.cons .bool (.cons (.int .i64) .nil)))) (.cons 112 (.cells [.sl 3, .bool, .int .i64] (.cons (.slN 3) (.cons .bool (.cons (.int .i64) .nil)))) .nil))
abbrev pL77 : PL := (.cons (.agg (.cons (.slN 3) (.cons .bool (.cons (.int .i64) .nil)))) (.cons (.agg (.cons (.slN 3) (.cons .bool (.cons (.int .i64) .nil)))) .nil))
abbrev Q78 : Type := (ByteArray × ByteArray × Int × Bool × Bool × Unit × Int × Unit) × (List Eng.V × Bool × Bool) × Unit
abbrev Q79 : Type := (ByteArray × ByteArray × Int × Bool × Bool × Unit × ByteArray × Int × Unit) × (List Eng.V × Bool × Bool) × Unit
abbrev Q80 : Type := (ByteArray × Int × Bool × Bool × ByteArray × Int × Unit) × Unit
abbrev pT81 : PT := (.cons 0 .str (.cons 2 (.int .i64) (.cons 6 .bool (.cons 7 .bool (.cons 10 .str (.cons 14 (.int .i64) .nil))))))
abbrev Q82 : Type := (ByteArray × ByteArray × Int × Bool × Bool × Unit × ByteArray × Int × Unit × Int × Unit) × (List Eng.V × Bool × Bool) × (List Eng.V × Bool × Bool) × Unit
abbrev pT83 : PT := (.cons 0 .str (.cons 1 .str (.cons 2 (.int .i64) (.cons 6 .bool (.cons 7 .bool (.cons 8 (.sla 400) (.cons 10 .str (.cons 11 (.int .i64) (.cons 12 (.sla 1248) (.cons 13 (.int .i64) .nil))))))))))
abbrev pH84 : PH := (.cons 400 (.arrB 1) (.cons 1248 (.arrB 1) .nil))
abbrev pT85 : PT := (.cons 0 .str (.cons 1 .str (.cons 2 (.int .i64) (.cons 6 .bool (.cons 7 .bool (.cons 8 (.sla 400) (.cons 10 .str (.cons 11 (.int .i64) .nil))))))))
abbrev pH86 : PH := (.cons 400 (.arrB 1) .nil)
abbrev pT87 : PT := (.cons 0 .str (.cons 1 .str (.cons 2 (.int .i64) (.cons 6 .bool (.cons 7 .bool (.cons 8 (.sla 400) (.cons 9 (.int .i64) .nil)))))))
/- internal/stringslite.Index -/
abbrev Tinternal_stringslite_Index : Type := ByteArray → ByteArray → (Int → Prop) → Prop
def Yinternal_stringslite_Index (xindexByte : TindexByte) (a0 : ByteArray) (a1 : ByteArray) (K : Int → Prop) : Prop :=
 (if ((↑(ByteArray.size a1) : Int) == 0) then
 K 0
 else
 (if (ByteArray.toList a1 == ByteArray.toList a0) then
 K 0
 else
 (if ((↑(ByteArray.size a1) : Int) == 1) then
 (if (0 :Int) ≤ 0 ∧ 0 < (↑(ByteArray.size a1) : Int) then
 xindexByte a0 (Eng.bAt a1 (0 : Nat)) (fun r2 =>
 K r2)
 else
 False)
 else
 (if decide ((↑(ByteArray.size a1) : Int) ≥ (↑(ByteArray.size a0) : Int)) then
 K (-1)
 else
 False))))
def Xinternal_stringslite_Index : Tinternal_stringslite_Index := Yinternal_stringslite_Index XindexByte
def Jinternal_stringslite_Index (X : Tinternal_stringslite_Index) : Inst := mkI 76 pL0 .nil pL1 .nil X
def Iinternal_stringslite_Index : Inst := Jinternal_stringslite_Index Xinternal_stringslite_Index
theorem Einternal_stringslite_Index (xindexByte : TindexByte) : EqF Tryd.prog 143 gives Tryd.f76 [JindexByte xindexByte] [] (Jinternal_stringslite_Index (Yinternal_stringslite_Index xindexByte)) := fun x y K => by kernel_rfl
theorem Iinternal_stringslite_Index_ok : InstOk Tryd.prog G.1 Iinternal_stringslite_Index := iok (gives := gives) [] (okCons IindexByte_ok okNil) 143 follows Tryd.func76 (by kernel_rfl) (fun x => by kernel_rfl) (Einternal_stringslite_Index XindexByte)

/- strings.Index -/
abbrev Tstrings_Index : Type := ByteArray → ByteArray → (Int → Prop) → Prop
def Ystrings_Index (xinternal_stringslite_Index : Tinternal_stringslite_Index) (a0 : ByteArray) (a1 : ByteArray) (K : Int → Prop) : Prop :=
 xinternal_stringslite_Index a0 a1 (fun r2 =>
 K r2)
def Xstrings_Index : Tstrings_Index := Ystrings_Index Xinternal_stringslite_Index
def Jstrings_Index (X : Tstrings_Index) : Inst := mkI 83 pL0 .nil pL1 .nil X
def Istrings_Index : Inst := Jstrings_Index Xstrings_Index
theorem Estrings_Index (xinternal_stringslite_Index : Tinternal_stringslite_Index) : EqF Tryd.prog 8 gives Tryd.f83 [Jinternal_stringslite_Index xinternal_stringslite_Index] [] (Jstrings_Index (Ystrings_Index xinternal_stringslite_Index)) := fun x y K => by kernel_rfl
theorem Istrings_Index_ok : InstOk Tryd.prog G.1 Istrings_Index := iok (gives := gives) [] (okCons Iinternal_stringslite_Index_ok okNil) 8 follows Tryd.func83 (by kernel_rfl) (fun x => by kernel_rfl) (Estrings_Index Xinternal_stringslite_Index)

/- strings.genSplit -/
abbrev Tstrings_genSplit : Type := ByteArray → ByteArray → Int → Int → ((List Eng.V) → Bool → Bool → Prop) → Prop
def Lstrings_genSplit_0 (xstrings_Index : Tstrings_Index) (K : (List Eng.V) → Bool → Bool → Prop) : (Q2 → Prop) → Q2 → Prop := fun k6 x7 =>
 (if decide (x7.1.2.2.2.2.2.2.1 < x7.1.2.2.2.1) then
 xstrings_Index x7.1.1 x7.1.2.1 (fun r8 =>
 (if decide (r8 < 0) then
 (if 0 ≤ x7.1.2.2.2.2.2.2.1 ∧ x7.1.2.2.2.2.2.2.1 < (↑(List.length x7.2.1) : Int) then
 (if Int.toNat x7.1.2.2.2.2.2.2.1 < List.length x7.2.1 then
 (if 0 ≤ w64 (x7.1.2.2.2.2.2.2.1 + 1) ∧ w64 (x7.1.2.2.2.2.2.2.1 + 1) ≤ (↑(List.length (List.set x7.2.1 (Int.toNat x7.1.2.2.2.2.2.2.1) (Eng.setE (List.getD x7.2.1 (Int.toNat x7.1.2.2.2.2.2.2.1) Eng.V.bad) (0 : Nat) [Eng.V.c (Value.string x7.1.1)]))) : Int) then
 (if (0 :Int) ≤ 0 ∧ 0 ≤ w64 (x7.1.2.2.2.2.2.2.1 + 1) then
 (if Nat.ble (Int.toNat (w64 (x7.1.2.2.2.2.2.2.1 + 1)) - (0 : Nat)) (List.length (List.set x7.2.1 (Int.toNat x7.1.2.2.2.2.2.2.1) (Eng.setE (List.getD x7.2.1 (Int.toNat x7.1.2.2.2.2.2.2.1) Eng.V.bad) (0 : Nat) [Eng.V.c (Value.string x7.1.1)]))) then
 (lt (List.take (Int.toNat (w64 (x7.1.2.2.2.2.2.2.1 + 1)) - (0 : Nat)) (List.set x7.2.1 (Int.toNat x7.1.2.2.2.2.2.2.1) (Eng.setE (List.getD x7.2.1 (Int.toNat x7.1.2.2.2.2.2.2.1) Eng.V.bad) (0 : Nat) [Eng.V.c (Value.string x7.1.1)]))) fun v9 =>
 K v9 true false)
 else
 K (Eng.cutL (List.set x7.2.1 (Int.toNat x7.1.2.2.2.2.2.2.1) (Eng.setE (List.getD x7.2.1 (Int.toNat x7.1.2.2.2.2.2.2.1) Eng.V.bad) (0 : Nat) [Eng.V.c (Value.string x7.1.1)])) (0 : Nat) (Int.toNat (w64 (x7.1.2.2.2.2.2.2.1 + 1)) - (0 : Nat))) false true)
 else
 False)
 else
 False)
 else
 False)
 else
 False)
 else
 (if 0 ≤ w64 (r8 + x7.1.2.2.1) ∧ w64 (r8 + x7.1.2.2.1) ≤ (↑(ByteArray.size x7.1.1) : Int) then
 (if (0 :Int) ≤ 0 ∧ 0 ≤ w64 (r8 + x7.1.2.2.1) then
 (lt (ByteArray.extract x7.1.1 (0 : Nat) (Int.toNat (w64 (r8 + x7.1.2.2.1)))) fun v10 =>
 (if 0 ≤ x7.1.2.2.2.2.2.2.1 ∧ x7.1.2.2.2.2.2.2.1 < (↑(List.length x7.2.1) : Int) then
 (if Int.toNat x7.1.2.2.2.2.2.2.1 < List.length x7.2.1 then
 (if 0 ≤ (↑(ByteArray.size x7.1.1) : Int) ∧ (↑(ByteArray.size x7.1.1) : Int) ≤ (↑(ByteArray.size x7.1.1) : Int) then
 (if 0 ≤ w64 (r8 + (↑(ByteArray.size x7.1.2.1) : Int)) ∧ w64 (r8 + (↑(ByteArray.size x7.1.2.1) : Int)) ≤ (↑(ByteArray.size x7.1.1) : Int) then
 (lt (ByteArray.extract x7.1.1 (Int.toNat (w64 (r8 + (↑(ByteArray.size x7.1.2.1) : Int)))) (Int.toNat (↑(ByteArray.size x7.1.1) : Int))) fun v11 =>
 k6 ((v11, x7.1.2.1, x7.1.2.2.1, x7.1.2.2.2.1, (), (), w64 (x7.1.2.2.2.2.2.2.1 + 1), ()), List.set x7.2.1 (Int.toNat x7.1.2.2.2.2.2.2.1) (Eng.setE (List.getD x7.2.1 (Int.toNat x7.1.2.2.2.2.2.2.1) Eng.V.bad) (0 : Nat) [Eng.V.c (Value.string v10)]), ()))
 else
 False)
 else
 False)
 else
 False)
 else
 False))
 else
 False)
 else
 False)))
 else
 (if 0 ≤ x7.1.2.2.2.2.2.2.1 ∧ x7.1.2.2.2.2.2.2.1 < (↑(List.length x7.2.1) : Int) then
 (if Int.toNat x7.1.2.2.2.2.2.2.1 < List.length x7.2.1 then
 (if 0 ≤ w64 (x7.1.2.2.2.2.2.2.1 + 1) ∧ w64 (x7.1.2.2.2.2.2.2.1 + 1) ≤ (↑(List.length (List.set x7.2.1 (Int.toNat x7.1.2.2.2.2.2.2.1) (Eng.setE (List.getD x7.2.1 (Int.toNat x7.1.2.2.2.2.2.2.1) Eng.V.bad) (0 : Nat) [Eng.V.c (Value.string x7.1.1)]))) : Int) then
 (if (0 :Int) ≤ 0 ∧ 0 ≤ w64 (x7.1.2.2.2.2.2.2.1 + 1) then
 (if Nat.ble (Int.toNat (w64 (x7.1.2.2.2.2.2.2.1 + 1)) - (0 : Nat)) (List.length (List.set x7.2.1 (Int.toNat x7.1.2.2.2.2.2.2.1) (Eng.setE (List.getD x7.2.1 (Int.toNat x7.1.2.2.2.2.2.2.1) Eng.V.bad) (0 : Nat) [Eng.V.c (Value.string x7.1.1)]))) then
 (lt (List.take (Int.toNat (w64 (x7.1.2.2.2.2.2.2.1 + 1)) - (0 : Nat)) (List.set x7.2.1 (Int.toNat x7.1.2.2.2.2.2.2.1) (Eng.setE (List.getD x7.2.1 (Int.toNat x7.1.2.2.2.2.2.2.1) Eng.V.bad) (0 : Nat) [Eng.V.c (Value.string x7.1.1)]))) fun v12 =>
 K v12 true false)
 else
 K (Eng.cutL (List.set x7.2.1 (Int.toNat x7.1.2.2.2.2.2.2.1) (Eng.setE (List.getD x7.2.1 (Int.toNat x7.1.2.2.2.2.2.2.1) Eng.V.bad) (0 : Nat) [Eng.V.c (Value.string x7.1.1)])) (0 : Nat) (Int.toNat (w64 (x7.1.2.2.2.2.2.2.1 + 1)) - (0 : Nat))) false true)
 else
 False)
 else
 False)
 else
 False)
 else
 False))
def Lstrings_genSplit_0p : Lp := ⟨1807, [.trim 1807], pT3, pH4, 0⟩
def Ystrings_genSplit (xcount : Tcount) (xstrings_Index : Tstrings_Index) (a0 : ByteArray) (a1 : ByteArray) (a2 : Int) (a3 : Int) (K : (List Eng.V) → Bool → Bool → Prop) : Prop :=
 (if (a3 == 0) then
 K [] true true
 else
 (if (ByteArray.toList a1 == ByteArray.toList (ByteArray.mk #[])) then
 False
 else
 (if decide (a3 < 0) then
 xcount a0 a1 (fun r4 =>
 (lt (if w64 ((↑(ByteArray.size a0) : Int) + 1) < w64 (r4 + 1) then w64 ((↑(ByteArray.size a0) : Int) + 1) else w64 (r4 + 1)) fun v5 =>
 (if 0 ≤ v5 ∧ v5 ≤ v5 ∧ v5 ≤ 4294967296 then
 lp (Lstrings_genSplit_0 xstrings_Index K) ((a0, a1, a2, w64 (v5 - 1), (), (), 0, ()), List.replicate (Int.toNat v5) (Eng.ofVal (Value.string (ByteArray.mk #[]))), ())
 else
 False)))
 else
 (lt (if w64 ((↑(ByteArray.size a0) : Int) + 1) < a3 then w64 ((↑(ByteArray.size a0) : Int) + 1) else a3) fun v13 =>
 (if 0 ≤ v13 ∧ v13 ≤ v13 ∧ v13 ≤ 4294967296 then
 lp (Lstrings_genSplit_0 xstrings_Index K) ((a0, a1, a2, w64 (v13 - 1), (), (), 0, ()), List.replicate (Int.toNat v13) (Eng.ofVal (Value.string (ByteArray.mk #[]))), ())
 else
 False)))))
def Xstrings_genSplit : Tstrings_genSplit := Ystrings_genSplit Xcount Xstrings_Index
def Jstrings_genSplit (X : Tstrings_genSplit) : Inst := mkI 60 pL5 .nil pL6 pH7 X
def Istrings_genSplit : Inst := Jstrings_genSplit Xstrings_genSplit
theorem Estrings_genSplit (xcount : Tcount) (xstrings_Index : Tstrings_Index) : EqF Tryd.prog 66 gives Tryd.f60 [Jcount xcount, Jstrings_Index xstrings_Index] [Lstrings_genSplit_0p] (Jstrings_genSplit (Ystrings_genSplit xcount xstrings_Index)) := fun x y K => by kernel_rfl
theorem Istrings_genSplit_ok : InstOk Tryd.prog G.1 Istrings_genSplit := iok (gives := gives) [Lstrings_genSplit_0p] (okCons Icount_ok (okCons Istrings_Index_ok okNil)) 66 follows Tryd.func60 (by kernel_rfl) (fun x => by kernel_rfl) (Estrings_genSplit Xcount Xstrings_Index)

/- strings.Split -/
abbrev Tstrings_Split : Type := ByteArray → ByteArray → ((List Eng.V) → Bool → Bool → Prop) → Prop
def Ystrings_Split (xstrings_genSplit : Tstrings_genSplit) (a0 : ByteArray) (a1 : ByteArray) (K : (List Eng.V) → Bool → Bool → Prop) : Prop :=
 xstrings_genSplit a0 a1 0 (-1) (fun r2 r3 r4 =>
 K r2 r3 r4)
def Xstrings_Split : Tstrings_Split := Ystrings_Split Xstrings_genSplit
def Jstrings_Split (X : Tstrings_Split) : Inst := mkI 33 pL0 .nil pL6 pH7 X
def Istrings_Split : Inst := Jstrings_Split Xstrings_Split
theorem Estrings_Split (xstrings_genSplit : Tstrings_genSplit) : EqF Tryd.prog 8 gives Tryd.f33 [Jstrings_genSplit xstrings_genSplit] [] (Jstrings_Split (Ystrings_Split xstrings_genSplit)) := fun x y K => by kernel_rfl
theorem Istrings_Split_ok : InstOk Tryd.prog G.1 Istrings_Split := iok (gives := gives) [] (okCons Istrings_genSplit_ok okNil) 8 follows Tryd.func33 (by kernel_rfl) (fun x => by kernel_rfl) (Estrings_Split Xstrings_genSplit)

/- internal/stringslite.HasSuffix -/
abbrev Tinternal_stringslite_HasSuffix : Type := ByteArray → ByteArray → (Bool → Prop) → Prop
def Yinternal_stringslite_HasSuffix (a0 : ByteArray) (a1 : ByteArray) (K : Bool → Prop) : Prop :=
 (if decide ((↑(ByteArray.size a0) : Int) ≥ (↑(ByteArray.size a1) : Int)) then
 (if 0 ≤ (↑(ByteArray.size a0) : Int) ∧ (↑(ByteArray.size a0) : Int) ≤ (↑(ByteArray.size a0) : Int) then
 (if 0 ≤ w64 ((↑(ByteArray.size a0) : Int) - (↑(ByteArray.size a1) : Int)) ∧ w64 ((↑(ByteArray.size a0) : Int) - (↑(ByteArray.size a1) : Int)) ≤ (↑(ByteArray.size a0) : Int) then
 (lt (ByteArray.extract a0 (Int.toNat (w64 ((↑(ByteArray.size a0) : Int) - (↑(ByteArray.size a1) : Int)))) (Int.toNat (↑(ByteArray.size a0) : Int))) fun v2 =>
 K (ByteArray.toList v2 == ByteArray.toList a1))
 else
 False)
 else
 False)
 else
 K false)
def Xinternal_stringslite_HasSuffix : Tinternal_stringslite_HasSuffix := Yinternal_stringslite_HasSuffix
def Jinternal_stringslite_HasSuffix (X : Tinternal_stringslite_HasSuffix) : Inst := mkI 84 pL0 .nil pL8 .nil X
def Iinternal_stringslite_HasSuffix : Inst := Jinternal_stringslite_HasSuffix Xinternal_stringslite_HasSuffix
theorem Einternal_stringslite_HasSuffix : EqF Tryd.prog 21 gives Tryd.f84 [] [] (Jinternal_stringslite_HasSuffix (Yinternal_stringslite_HasSuffix)) := fun x y K => by kernel_rfl
theorem Iinternal_stringslite_HasSuffix_ok : InstOk Tryd.prog G.1 Iinternal_stringslite_HasSuffix := iok (gives := gives) [] okNil 21 follows Tryd.func84 (by kernel_rfl) (fun x => by kernel_rfl) (Einternal_stringslite_HasSuffix)

/- internal/stringslite.TrimSuffix -/
abbrev Tinternal_stringslite_TrimSuffix : Type := ByteArray → ByteArray → (ByteArray → Prop) → Prop
def Yinternal_stringslite_TrimSuffix (xinternal_stringslite_HasSuffix : Tinternal_stringslite_HasSuffix) (a0 : ByteArray) (a1 : ByteArray) (K : ByteArray → Prop) : Prop :=
 xinternal_stringslite_HasSuffix a0 a1 (fun r2 =>
 (if r2 then
 (if 0 ≤ w64 ((↑(ByteArray.size a0) : Int) - (↑(ByteArray.size a1) : Int)) ∧ w64 ((↑(ByteArray.size a0) : Int) - (↑(ByteArray.size a1) : Int)) ≤ (↑(ByteArray.size a0) : Int) then
 (if (0 :Int) ≤ 0 ∧ 0 ≤ w64 ((↑(ByteArray.size a0) : Int) - (↑(ByteArray.size a1) : Int)) then
 (lt (ByteArray.extract a0 (0 : Nat) (Int.toNat (w64 ((↑(ByteArray.size a0) : Int) - (↑(ByteArray.size a1) : Int))))) fun v3 =>
 K v3)
 else
 False)
 else
 False)
 else
 K a0))
def Xinternal_stringslite_TrimSuffix : Tinternal_stringslite_TrimSuffix := Yinternal_stringslite_TrimSuffix Xinternal_stringslite_HasSuffix
def Jinternal_stringslite_TrimSuffix (X : Tinternal_stringslite_TrimSuffix) : Inst := mkI 61 pL0 .nil pL9 .nil X
def Iinternal_stringslite_TrimSuffix : Inst := Jinternal_stringslite_TrimSuffix Xinternal_stringslite_TrimSuffix
theorem Einternal_stringslite_TrimSuffix (xinternal_stringslite_HasSuffix : Tinternal_stringslite_HasSuffix) : EqF Tryd.prog 16 gives Tryd.f61 [Jinternal_stringslite_HasSuffix xinternal_stringslite_HasSuffix] [] (Jinternal_stringslite_TrimSuffix (Yinternal_stringslite_TrimSuffix xinternal_stringslite_HasSuffix)) := fun x y K => by kernel_rfl
theorem Iinternal_stringslite_TrimSuffix_ok : InstOk Tryd.prog G.1 Iinternal_stringslite_TrimSuffix := iok (gives := gives) [] (okCons Iinternal_stringslite_HasSuffix_ok okNil) 16 follows Tryd.func61 (by kernel_rfl) (fun x => by kernel_rfl) (Einternal_stringslite_TrimSuffix Xinternal_stringslite_HasSuffix)

/- strings.TrimSuffix -/
abbrev Tstrings_TrimSuffix : Type := ByteArray → ByteArray → (ByteArray → Prop) → Prop
def Ystrings_TrimSuffix (xinternal_stringslite_TrimSuffix : Tinternal_stringslite_TrimSuffix) (a0 : ByteArray) (a1 : ByteArray) (K : ByteArray → Prop) : Prop :=
 xinternal_stringslite_TrimSuffix a0 a1 (fun r2 =>
 K r2)
def Xstrings_TrimSuffix : Tstrings_TrimSuffix := Ystrings_TrimSuffix Xinternal_stringslite_TrimSuffix
def Jstrings_TrimSuffix (X : Tstrings_TrimSuffix) : Inst := mkI 34 pL0 .nil pL9 .nil X
def Istrings_TrimSuffix : Inst := Jstrings_TrimSuffix Xstrings_TrimSuffix
theorem Estrings_TrimSuffix (xinternal_stringslite_TrimSuffix : Tinternal_stringslite_TrimSuffix) : EqF Tryd.prog 8 gives Tryd.f34 [Jinternal_stringslite_TrimSuffix xinternal_stringslite_TrimSuffix] [] (Jstrings_TrimSuffix (Ystrings_TrimSuffix xinternal_stringslite_TrimSuffix)) := fun x y K => by kernel_rfl
theorem Istrings_TrimSuffix_ok : InstOk Tryd.prog G.1 Istrings_TrimSuffix := iok (gives := gives) [] (okCons Iinternal_stringslite_TrimSuffix_ok okNil) 8 follows Tryd.func34 (by kernel_rfl) (fun x => by kernel_rfl) (Estrings_TrimSuffix Xinternal_stringslite_TrimSuffix)

/- epact/lines.Split -/
abbrev Tlines_Split : Type := ByteArray → ((List Eng.V) → Bool → Bool → Prop) → Prop
def Llines_Split_1 (xstrings_TrimSuffix : Tstrings_TrimSuffix) (K : (List Eng.V) → Bool → Bool → Prop) : (Q10 → Prop) → Q10 → Prop := fun k10 x11 =>
 (if decide (x11.1.2.2.2.1 < x11.1.2.2.1) then
 (if 0 ≤ x11.1.2.2.2.1 ∧ x11.1.2.2.2.1 < (↑(List.length x11.2.1.1) : Int) then
 (Eng.asStr (Eng.getC x11.2.1.1 (Int.toNat x11.1.2.2.2.1) (0 : Nat)) False fun t12 =>
 xstrings_TrimSuffix t12 (ByteArray.mk #[(13 : UInt8)]) (fun r13 =>
 (if 0 ≤ x11.1.2.2.2.1 ∧ x11.1.2.2.2.1 < (↑(List.length x11.2.1.1) : Int) then
 (if x11.2.1.2.2 = false then
 (if Int.toNat x11.1.2.2.2.1 < List.length x11.2.1.1 then
 k10 (((), (), x11.1.2.2.1, w64 (x11.1.2.2.2.1 + 1), ()), (List.set x11.2.1.1 (Int.toNat x11.1.2.2.2.1) (Eng.setE (List.getD x11.2.1.1 (Int.toNat x11.1.2.2.2.1) Eng.V.bad) (0 : Nat) [Eng.V.c (Value.string r13)]), x11.2.1.2), ())
 else
 False)
 else
 False)
 else
 False)))
 else
 False)
 else
 K x11.2.1.1 x11.2.1.2.1 x11.2.1.2.2)
def Llines_Split_1p : Lp := ⟨3145740, [.trim 3145740], pT11, pH12, 0⟩
def Llines_Split_0 (xstrings_TrimSuffix : Tstrings_TrimSuffix) (K : (List Eng.V) → Bool → Bool → Prop) : (Q13 → Prop) → Q13 → Prop := fun k5 x6 =>
 (if decide (x6.1.2.2.2.1 < x6.1.2.2.1) then
 (if 0 ≤ x6.1.2.2.2.1 ∧ x6.1.2.2.2.1 < (↑(x6.1.2.1) : Int) then
 (Eng.asStr (Eng.getC x6.2.1.1 ((0 : Nat) + Int.toNat x6.1.2.2.2.1) (0 : Nat)) False fun t7 =>
 xstrings_TrimSuffix t7 (ByteArray.mk #[(13 : UInt8)]) (fun r8 =>
 (if 0 ≤ x6.1.2.2.2.1 ∧ x6.1.2.2.2.1 < (↑(x6.1.2.1) : Int) then
 (if x6.2.1.2.2 = false then
 (if (0 : Nat) + Int.toNat x6.1.2.2.2.1 < List.length x6.2.1.1 then
 (lt (List.set x6.2.1.1 ((0 : Nat) + Int.toNat x6.1.2.2.2.1) (Eng.setE (List.getD x6.2.1.1 ((0 : Nat) + Int.toNat x6.1.2.2.2.1) Eng.V.bad) (0 : Nat) [Eng.V.c (Value.string r8)])) fun v9 =>
 k5 (((), x6.1.2.1, x6.1.2.2.1, w64 (x6.1.2.2.2.1 + 1), ()), (v9, x6.2.1.2), ()))
 else
 False)
 else
 False)
 else
 False)))
 else
 False)
 else
 (if x6.2.1.2.1 then
 (if x6.2.1.2.2 = false then
 (if Nat.ble x6.1.2.1 (List.length x6.2.1.1) then
 K (List.take x6.1.2.1 x6.2.1.1) true false
 else
 K (Eng.cutL x6.2.1.1 (0 : Nat) x6.1.2.1) false true)
 else
 K (Eng.cutL x6.2.1.1 (0 : Nat) x6.1.2.1) false true)
 else
 K (Eng.cutL x6.2.1.1 (0 : Nat) x6.1.2.1) false true))
def Llines_Split_0p : Lp := ⟨3145740, [.trim 3145740], pT14, pH12, 0⟩
def Ylines_Split (xstrings_Split : Tstrings_Split) (xstrings_TrimSuffix : Tstrings_TrimSuffix) (a0 : ByteArray) (K : (List Eng.V) → Bool → Bool → Prop) : Prop :=
 xstrings_Split a0 (ByteArray.mk #[(10 : UInt8)]) (fun r1 r2 r3 =>
 (if 0 ≤ w64 ((↑(List.length r1) : Int) - 1) ∧ w64 ((↑(List.length r1) : Int) - 1) < (↑(List.length r1) : Int) then
 (Eng.asStr (Eng.getC r1 (Int.toNat (w64 ((↑(List.length r1) : Int) - 1))) (0 : Nat)) False fun t4 =>
 (if (ByteArray.toList t4 == ByteArray.toList (ByteArray.mk #[])) then
 (if 0 ≤ w64 ((↑(List.length r1) : Int) - 1) ∧ w64 ((↑(List.length r1) : Int) - 1) ≤ (↑(List.length r1) : Int) then
 (if (0 :Int) ≤ 0 ∧ 0 ≤ w64 ((↑(List.length r1) : Int) - 1) then
 lp (Llines_Split_0 xstrings_TrimSuffix K) (((), Int.toNat (w64 ((↑(List.length r1) : Int) - 1)) - (0 : Nat), (↑(Int.toNat (w64 ((↑(List.length r1) : Int) - 1)) - (0 : Nat)) : Int), 0, ()), (r1, r2, r3), ())
 else
 False)
 else
 False)
 else
 lp (Llines_Split_1 xstrings_TrimSuffix K) (((), (), (↑(List.length r1) : Int), 0, ()), (r1, r2, r3), ())))
 else
 False))
def Xlines_Split : Tlines_Split := Ylines_Split Xstrings_Split Xstrings_TrimSuffix
def Jlines_Split (X : Tlines_Split) : Inst := mkI 17 pL9 .nil pL6 pH7 X
def Ilines_Split : Inst := Jlines_Split Xlines_Split
theorem Elines_Split (xstrings_Split : Tstrings_Split) (xstrings_TrimSuffix : Tstrings_TrimSuffix) : EqF Tryd.prog 34 gives Tryd.f17 [Jstrings_Split xstrings_Split, Jstrings_TrimSuffix xstrings_TrimSuffix] [Llines_Split_0p, Llines_Split_1p] (Jlines_Split (Ylines_Split xstrings_Split xstrings_TrimSuffix)) := fun x y K => by kernel_rfl
theorem Ilines_Split_ok : InstOk Tryd.prog G.1 Ilines_Split := iok (gives := gives) [Llines_Split_0p, Llines_Split_1p] (okCons Istrings_Split_ok (okCons Istrings_TrimSuffix_ok okNil)) 34 follows Tryd.func17 (by kernel_rfl) (fun x => by kernel_rfl) (Elines_Split Xstrings_Split Xstrings_TrimSuffix)

/- internal/stringslite.Cut -/
abbrev Tinternal_stringslite_Cut : Type := ByteArray → ByteArray → (ByteArray → ByteArray → Bool → Prop) → Prop
def Yinternal_stringslite_Cut (xinternal_stringslite_Index : Tinternal_stringslite_Index) (a0 : ByteArray) (a1 : ByteArray) (K : ByteArray → ByteArray → Bool → Prop) : Prop :=
 xinternal_stringslite_Index a0 a1 (fun r2 =>
 (if decide (r2 ≥ 0) then
 (if 0 ≤ r2 ∧ r2 ≤ (↑(ByteArray.size a0) : Int) then
 (if (0 :Int) ≤ 0 ∧ 0 ≤ r2 then
 (if 0 ≤ (↑(ByteArray.size a0) : Int) ∧ (↑(ByteArray.size a0) : Int) ≤ (↑(ByteArray.size a0) : Int) then
 (if 0 ≤ w64 (r2 + (↑(ByteArray.size a1) : Int)) ∧ w64 (r2 + (↑(ByteArray.size a1) : Int)) ≤ (↑(ByteArray.size a0) : Int) then
 (lt (ByteArray.extract a0 (Int.toNat (w64 (r2 + (↑(ByteArray.size a1) : Int)))) (Int.toNat (↑(ByteArray.size a0) : Int))) fun v3 =>
 K (ByteArray.extract a0 (0 : Nat) (Int.toNat r2)) v3 true)
 else
 False)
 else
 False)
 else
 False)
 else
 False)
 else
 K a0 (ByteArray.mk #[]) false))
def Xinternal_stringslite_Cut : Tinternal_stringslite_Cut := Yinternal_stringslite_Cut Xinternal_stringslite_Index
def Jinternal_stringslite_Cut (X : Tinternal_stringslite_Cut) : Inst := mkI 56 pL0 .nil pL15 .nil X
def Iinternal_stringslite_Cut : Inst := Jinternal_stringslite_Cut Xinternal_stringslite_Cut
theorem Einternal_stringslite_Cut (xinternal_stringslite_Index : Tinternal_stringslite_Index) : EqF Tryd.prog 23 gives Tryd.f56 [Jinternal_stringslite_Index xinternal_stringslite_Index] [] (Jinternal_stringslite_Cut (Yinternal_stringslite_Cut xinternal_stringslite_Index)) := fun x y K => by kernel_rfl
theorem Iinternal_stringslite_Cut_ok : InstOk Tryd.prog G.1 Iinternal_stringslite_Cut := iok (gives := gives) [] (okCons Iinternal_stringslite_Index_ok okNil) 23 follows Tryd.func56 (by kernel_rfl) (fun x => by kernel_rfl) (Einternal_stringslite_Cut Xinternal_stringslite_Index)

/- strings.Cut -/
abbrev Tstrings_Cut : Type := ByteArray → ByteArray → (ByteArray → ByteArray → Bool → Prop) → Prop
def Ystrings_Cut (xinternal_stringslite_Cut : Tinternal_stringslite_Cut) (a0 : ByteArray) (a1 : ByteArray) (K : ByteArray → ByteArray → Bool → Prop) : Prop :=
 xinternal_stringslite_Cut a0 a1 (fun r2 r3 r4 =>
 K r2 r3 r4)
def Xstrings_Cut : Tstrings_Cut := Ystrings_Cut Xinternal_stringslite_Cut
def Jstrings_Cut (X : Tstrings_Cut) : Inst := mkI 31 pL0 .nil pL15 .nil X
def Istrings_Cut : Inst := Jstrings_Cut Xstrings_Cut
theorem Estrings_Cut (xinternal_stringslite_Cut : Tinternal_stringslite_Cut) : EqF Tryd.prog 13 gives Tryd.f31 [Jinternal_stringslite_Cut xinternal_stringslite_Cut] [] (Jstrings_Cut (Ystrings_Cut xinternal_stringslite_Cut)) := fun x y K => by kernel_rfl
theorem Istrings_Cut_ok : InstOk Tryd.prog G.1 Istrings_Cut := iok (gives := gives) [] (okCons Iinternal_stringslite_Cut_ok okNil) 13 follows Tryd.func31 (by kernel_rfl) (fun x => by kernel_rfl) (Estrings_Cut Xinternal_stringslite_Cut)

/- epact/lines.Words -/
abbrev Tlines_Words : Type := ByteArray → ((List Eng.V) → Bool → Bool → Prop) → Prop
def Llines_Words_0 (K : (List Eng.V) → Bool → Bool → Prop) : (Q16 → Prop) → Q16 → Prop := fun k1 x2 =>
 (if x2.2.1.2 < ByteArray.size x2.2.1.1 then
 (if ((↑(Prod.fst (Go.Utf8.decode x2.2.1.1 x2.2.1.2)) : Int) == 32) then
 (if decide (x2.1.2.2.1 ≥ 0) then
 (if 0 ≤ (↑(x2.2.1.2) : Int) ∧ (↑(x2.2.1.2) : Int) ≤ (↑(ByteArray.size x2.1.1) : Int) then
 (if 0 ≤ x2.1.2.2.1 ∧ x2.1.2.2.1 ≤ (↑(x2.2.1.2) : Int) then
 (if Eng.roomOk (List.length x2.2.2.1 + List.length [Eng.V.c (Value.string (ByteArray.extract x2.1.1 (Int.toNat x2.1.2.2.1) (Int.toNat (↑(x2.2.1.2) : Int))))]) (16 : Nat) then
 k1 ((x2.1.1, (), (-1), (), ()), (x2.2.1.1, x2.2.1.2 + Prod.snd (Go.Utf8.decode x2.2.1.1 x2.2.1.2)), x2.2.2.1 ++ [Eng.V.c (Value.string (ByteArray.extract x2.1.1 (Int.toNat x2.1.2.2.1) (Int.toNat (↑(x2.2.1.2) : Int))))], ())
 else
 False)
 else
 False)
 else
 False)
 else
 k1 ((x2.1.1, (), x2.1.2.2.1, (), ()), (x2.2.1.1, x2.2.1.2 + Prod.snd (Go.Utf8.decode x2.2.1.1 x2.2.1.2)), x2.2.2))
 else
 (if ((↑(Prod.fst (Go.Utf8.decode x2.2.1.1 x2.2.1.2)) : Int) == 9) then
 (if decide (x2.1.2.2.1 ≥ 0) then
 (if 0 ≤ (↑(x2.2.1.2) : Int) ∧ (↑(x2.2.1.2) : Int) ≤ (↑(ByteArray.size x2.1.1) : Int) then
 (if 0 ≤ x2.1.2.2.1 ∧ x2.1.2.2.1 ≤ (↑(x2.2.1.2) : Int) then
 (if Eng.roomOk (List.length x2.2.2.1 + List.length [Eng.V.c (Value.string (ByteArray.extract x2.1.1 (Int.toNat x2.1.2.2.1) (Int.toNat (↑(x2.2.1.2) : Int))))]) (16 : Nat) then
 k1 ((x2.1.1, (), (-1), (), ()), (x2.2.1.1, x2.2.1.2 + Prod.snd (Go.Utf8.decode x2.2.1.1 x2.2.1.2)), x2.2.2.1 ++ [Eng.V.c (Value.string (ByteArray.extract x2.1.1 (Int.toNat x2.1.2.2.1) (Int.toNat (↑(x2.2.1.2) : Int))))], ())
 else
 False)
 else
 False)
 else
 False)
 else
 (if (!(↑(Prod.fst (Go.Utf8.decode x2.2.1.1 x2.2.1.2)) : Int) == 9) then
 (if decide (x2.1.2.2.1 < 0) then
 k1 ((x2.1.1, (), (↑(x2.2.1.2) : Int), (), ()), (x2.2.1.1, x2.2.1.2 + Prod.snd (Go.Utf8.decode x2.2.1.1 x2.2.1.2)), x2.2.2)
 else
 k1 ((x2.1.1, (), x2.1.2.2.1, (), ()), (x2.2.1.1, x2.2.1.2 + Prod.snd (Go.Utf8.decode x2.2.1.1 x2.2.1.2)), x2.2.2))
 else
 k1 ((x2.1.1, (), x2.1.2.2.1, (), ()), (x2.2.1.1, x2.2.1.2 + Prod.snd (Go.Utf8.decode x2.2.1.1 x2.2.1.2)), x2.2.2)))
 else
 (if (!(↑(Prod.fst (Go.Utf8.decode x2.2.1.1 x2.2.1.2)) : Int) == 9) then
 (if decide (x2.1.2.2.1 < 0) then
 k1 ((x2.1.1, (), (↑(x2.2.1.2) : Int), (), ()), (x2.2.1.1, x2.2.1.2 + Prod.snd (Go.Utf8.decode x2.2.1.1 x2.2.1.2)), x2.2.2)
 else
 k1 ((x2.1.1, (), x2.1.2.2.1, (), ()), (x2.2.1.1, x2.2.1.2 + Prod.snd (Go.Utf8.decode x2.2.1.1 x2.2.1.2)), x2.2.2))
 else
 k1 ((x2.1.1, (), x2.1.2.2.1, (), ()), (x2.2.1.1, x2.2.1.2 + Prod.snd (Go.Utf8.decode x2.2.1.1 x2.2.1.2)), x2.2.2))))
 else
 K x2.2.2.1 true false)
def Llines_Words_0p : Lp := ⟨525, [.trim 525, .fat 2 1 736, .trim 525], pT17, pH18, 0⟩
def Ylines_Words (a0 : ByteArray) (K : (List Eng.V) → Bool → Bool → Prop) : Prop :=
 (if (↑(ByteArray.size a0 + (1 : Nat)) : Int) > 9223372036854775807 then
 False
 else
 lp (Llines_Words_0 K) ((a0, (), (-1), (), ()), (a0 ++ ByteArray.mk #[(32 : UInt8)], (0 : Nat)), [], ()))
def Xlines_Words : Tlines_Words := Ylines_Words
def Jlines_Words (X : Tlines_Words) : Inst := mkI 18 pL9 .nil pL6 pH7 X
def Ilines_Words : Inst := Jlines_Words Xlines_Words
theorem Elines_Words : EqF Tryd.prog 42 gives Tryd.f18 [] [Llines_Words_0p] (Jlines_Words (Ylines_Words)) := fun x y K => by kernel_rfl
theorem Ilines_Words_ok : InstOk Tryd.prog G.1 Ilines_Words := iok (gives := gives) [Llines_Words_0p] okNil 42 follows Tryd.func18 (by kernel_rfl) (fun x => by kernel_rfl) (Elines_Words)

/- epact/lines.Fold -/
abbrev Tlines_Fold : Type := ByteArray → (ByteArray → Prop) → Prop
def Llines_Fold_0 (K : ByteArray → Prop) : (Q19 → Prop) → Q19 → Prop := fun k1 x2 =>
 (if decide (x2.1.2.2.2.2.1 < x2.1.2.2.2.1) then
 (if 0 ≤ x2.1.2.2.2.2.1 ∧ x2.1.2.2.2.2.1 < (↑(List.length x2.2.1) : Int) then
 (Eng.asInt IntKind.u8 (Eng.getC x2.2.1 (Int.toNat x2.1.2.2.2.2.1) (0 : Nat)) False fun n3 =>
 (if decide (n3 ≥ 65) then
 (if decide (n3 ≤ 90) then
 (if 0 ≤ x2.1.2.2.2.2.1 ∧ x2.1.2.2.2.2.1 < (↑(List.length x2.2.1) : Int) then
 (Eng.asInt IntKind.u8 (Eng.getC x2.2.1 (Int.toNat x2.1.2.2.2.2.1) (0 : Nat)) False fun n4 =>
 (if 0 ≤ x2.1.2.2.2.2.1 ∧ x2.1.2.2.2.2.1 < (↑(List.length x2.2.1) : Int) then
 (if Int.toNat x2.1.2.2.2.2.1 < List.length x2.2.1 then
 (lt (List.set x2.2.1 (Int.toNat x2.1.2.2.2.2.1) (Eng.setE (List.getD x2.2.1 (Int.toNat x2.1.2.2.2.2.1) Eng.V.bad) (0 : Nat) [Eng.V.c (Value.int IntKind.u8 (wu8 (n4 + 32)))])) fun v5 =>
 k1 ((x2.1.1, (), (), x2.1.2.2.2.1, w64 (x2.1.2.2.2.2.1 + 1), ()), v5, ()))
 else
 False)
 else
 False))
 else
 False)
 else
 k1 ((x2.1.1, (), (), x2.1.2.2.2.1, w64 (x2.1.2.2.2.2.1 + 1), ()), x2.2))
 else
 k1 ((x2.1.1, (), (), x2.1.2.2.2.1, w64 (x2.1.2.2.2.2.1 + 1), ()), x2.2)))
 else
 False)
 else
 (if Eng.allU8 x2.2.1 then
 K (Eng.packB x2.2.1)
 else
 False))
def Llines_Fold_0p : Lp := ⟨1804, [.trim 1804], pT20, pH21, 0⟩
def Ylines_Fold (a0 : ByteArray) (K : ByteArray → Prop) : Prop :=
 lp (Llines_Fold_0 K) ((ByteArray.mk #[], (), (), (↑(List.length (Eng.bytesV a0)) : Int), 0, ()), Eng.bytesV a0, ())
def Xlines_Fold : Tlines_Fold := Ylines_Fold
def Jlines_Fold (X : Tlines_Fold) : Inst := mkI 19 pL9 .nil pL9 .nil X
def Ilines_Fold : Inst := Jlines_Fold Xlines_Fold
theorem Elines_Fold : EqF Tryd.prog 30 gives Tryd.f19 [] [Llines_Fold_0p] (Jlines_Fold (Ylines_Fold)) := fun x y K => by kernel_rfl
theorem Ilines_Fold_ok : InstOk Tryd.prog G.1 Ilines_Fold := iok (gives := gives) [Llines_Fold_0p] okNil 30 follows Tryd.func19 (by kernel_rfl) (fun x => by kernel_rfl) (Elines_Fold)

/- epact/num.size -/
abbrev Tnum_size : Type := Int → (Int → Prop) → Prop
def Ynum_size (a0 : Int) (K : Int → Prop) : Prop :=
 (if decide (a0 < 0) then
 K (wu64 (0 - wu64 a0))
 else
 K (wu64 a0))
def Xnum_size : Tnum_size := Ynum_size
def Jnum_size (X : Tnum_size) : Inst := mkI 93 pL1 .nil pL22 .nil X
def Inum_size : Inst := Jnum_size Xnum_size
theorem Enum_size : EqF Tryd.prog 10 gives Tryd.f93 [] [] (Jnum_size (Ynum_size)) := fun x y K => by kernel_rfl
theorem Inum_size_ok : InstOk Tryd.prog G.1 Inum_size := iok (gives := gives) [] okNil 10 follows Tryd.func93 (by kernel_rfl) (fun x => by kernel_rfl) (Enum_size)

/- math/bits.Mul64 -/
abbrev Tmath_bits_Mul64 : Type := Int → Int → (Int → Int → Prop) → Prop
def Ymath_bits_Mul64 (a0 : Int) (a1 : Int) (K : Int → Int → Prop) : Prop :=
 (lt (wu64 (wu64 (↑(BitVec.toNat (BitVec.ofInt (64 : Nat) a0 &&& BitVec.ofInt (64 : Nat) 4294967295)) : Int) * wu64 (↑(BitVec.toNat (BitVec.ofInt (64 : Nat) a1 &&& BitVec.ofInt (64 : Nat) 4294967295)) : Int))) fun v2 =>
 (lt (wu64 (Int.fdiv a0 4294967296 * wu64 (↑(BitVec.toNat (BitVec.ofInt (64 : Nat) a1 &&& BitVec.ofInt (64 : Nat) 4294967295)) : Int))) fun v3 =>
 (lt (wu64 (↑(BitVec.toNat (BitVec.ofInt (64 : Nat) (wu64 (v3 + Int.fdiv v2 4294967296)) &&& BitVec.ofInt (64 : Nat) 4294967295)) : Int)) fun v4 =>
 (lt (Int.fdiv (wu64 (v3 + Int.fdiv v2 4294967296)) 4294967296) fun v5 =>
 (lt (wu64 (wu64 (↑(BitVec.toNat (BitVec.ofInt (64 : Nat) a0 &&& BitVec.ofInt (64 : Nat) 4294967295)) : Int) * Int.fdiv a1 4294967296)) fun v6 =>
 (lt (wu64 (Int.fdiv a0 4294967296 * Int.fdiv a1 4294967296)) fun v7 =>
 (lt (wu64 (wu64 (v7 + v5) + Int.fdiv (wu64 (v4 + v6)) 4294967296)) fun v8 =>
 K v8 (wu64 (a0 * a1)))))))))
def Xmath_bits_Mul64 : Tmath_bits_Mul64 := Ymath_bits_Mul64
def Jmath_bits_Mul64 (X : Tmath_bits_Mul64) : Inst := mkI 92 pL23 .nil pL23 .nil X
def Imath_bits_Mul64 : Inst := Jmath_bits_Mul64 Xmath_bits_Mul64
theorem Emath_bits_Mul64 : EqF Tryd.prog 51 gives Tryd.f92 [] [] (Jmath_bits_Mul64 (Ymath_bits_Mul64)) := fun x y K => by kernel_rfl
theorem Imath_bits_Mul64_ok : InstOk Tryd.prog G.1 Imath_bits_Mul64 := iok (gives := gives) [] okNil 51 follows Tryd.func92 (by kernel_rfl) (fun x => by kernel_rfl) (Emath_bits_Mul64)

/- epact/num.Mul -/
abbrev Tnum_Mul : Type := Int → Int → (Int → Bool → Prop) → Prop
def Ynum_Mul (xnum_size : Tnum_size) (xmath_bits_Mul64 : Tmath_bits_Mul64) (a0 : Int) (a1 : Int) (K : Int → Bool → Prop) : Prop :=
 xnum_size a0 (fun r2 =>
 xnum_size a1 (fun r3 =>
 xmath_bits_Mul64 r2 r3 (fun r4 r5 =>
 (if (!decide (a0 < 0) == decide (a1 < 0)) then
 (if (r4 != 0) then
 K 0 false
 else
 (if decide (r5 > 9223372036854775808) then
 K 0 false
 else
 K (w64 (a0 * a1)) true))
 else
 (if (r4 != 0) then
 K 0 false
 else
 (if decide (r5 > 9223372036854775807) then
 K 0 false
 else
 K (w64 (a0 * a1)) true))))))
def Xnum_Mul : Tnum_Mul := Ynum_Mul Xnum_size Xmath_bits_Mul64
def Jnum_Mul (X : Tnum_Mul) : Inst := mkI 73 pL24 .nil pL25 .nil X
def Inum_Mul : Inst := Jnum_Mul Xnum_Mul
theorem Enum_Mul (xnum_size : Tnum_size) (xmath_bits_Mul64 : Tmath_bits_Mul64) : EqF Tryd.prog 34 gives Tryd.f73 [Jnum_size xnum_size, Jmath_bits_Mul64 xmath_bits_Mul64] [] (Jnum_Mul (Ynum_Mul xnum_size xmath_bits_Mul64)) := fun x y K => by kernel_rfl
theorem Inum_Mul_ok : InstOk Tryd.prog G.1 Inum_Mul := iok (gives := gives) [] (okCons Inum_size_ok (okCons Imath_bits_Mul64_ok okNil)) 34 follows Tryd.func73 (by kernel_rfl) (fun x => by kernel_rfl) (Enum_Mul Xnum_size Xmath_bits_Mul64)

/- epact/num.Add -/
abbrev Tnum_Add : Type := Int → Int → (Int → Bool → Prop) → Prop
def Ynum_Add (a0 : Int) (a1 : Int) (K : Int → Bool → Prop) : Prop :=
 (lt (!decide (w64 (a0 + a1) > a0) == decide (a1 > 0)) fun v2 =>
 (if v2 then
 (if (a1 != 0) then
 K 0 false
 else
 K (w64 (a0 + a1)) true)
 else
 K (w64 (a0 + a1)) true))
def Xnum_Add : Tnum_Add := Ynum_Add
def Jnum_Add (X : Tnum_Add) : Inst := mkI 64 pL24 .nil pL25 .nil X
def Inum_Add : Inst := Jnum_Add Xnum_Add
theorem Enum_Add : EqF Tryd.prog 21 gives Tryd.f64 [] [] (Jnum_Add (Ynum_Add)) := fun x y K => by kernel_rfl
theorem Inum_Add_ok : InstOk Tryd.prog G.1 Inum_Add := iok (gives := gives) [] okNil 21 follows Tryd.func64 (by kernel_rfl) (fun x => by kernel_rfl) (Enum_Add)

/- epact/lines.Number -/
abbrev Tlines_Number : Type := ByteArray → (Int → Bool → Prop) → Prop
def Llines_Number_0 (xnum_Mul : Tnum_Mul) (xnum_Add : Tnum_Add) (K : Int → Bool → Prop) : (Q26 → Prop) → Q26 → Prop := fun k1 x2 =>
 (if decide (x2.1.2.2.2.2.2.1 < x2.1.2.2.2.2.1) then
 (if 0 ≤ x2.1.2.2.2.2.2.1 ∧ x2.1.2.2.2.2.2.1 < (↑(List.length x2.2.1) : Int) then
 (Eng.asInt IntKind.u8 (Eng.getC x2.2.1 (Int.toNat x2.1.2.2.2.2.2.1) (0 : Nat)) False fun n3 =>
 xnum_Mul x2.1.2.1 10 (fun r4 r5 =>
 xnum_Add r4 (w64 (w64 n3 - 48)) (fun r6 r7 =>
 (if decide (n3 < 48) then
 K 0 false
 else
 (if decide (n3 > 57) then
 K 0 false
 else
 (if (!r5) then
 K 0 false
 else
 (if (!r7) then
 K 0 false
 else
 k1 ((x2.1.1, r6, x2.1.2.2.1, (), x2.1.2.2.2.2.1, w64 (x2.1.2.2.2.2.2.1 + 1), ()), x2.2))))))))
 else
 False)
 else
 K x2.1.2.1 (decide ((↑(ByteArray.size x2.1.1) : Int) > 0)))
def Llines_Number_0p : Lp := ⟨14349, [.trim 14349], pT27, pH28, 0⟩
def Ylines_Number (xnum_Mul : Tnum_Mul) (xnum_Add : Tnum_Add) (a0 : ByteArray) (K : Int → Bool → Prop) : Prop :=
 lp (Llines_Number_0 xnum_Mul xnum_Add K) ((a0, 0, false, (), (↑(List.length (Eng.bytesV a0)) : Int), 0, ()), Eng.bytesV a0, ())
def Xlines_Number : Tlines_Number := Ylines_Number Xnum_Mul Xnum_Add
def Jlines_Number (X : Tlines_Number) : Inst := mkI 50 pL9 .nil pL25 .nil X
def Ilines_Number : Inst := Jlines_Number Xlines_Number
theorem Elines_Number (xnum_Mul : Tnum_Mul) (xnum_Add : Tnum_Add) : EqF Tryd.prog 50 gives Tryd.f50 [Jnum_Mul xnum_Mul, Jnum_Add xnum_Add] [Llines_Number_0p] (Jlines_Number (Ylines_Number xnum_Mul xnum_Add)) := fun x y K => by kernel_rfl
theorem Ilines_Number_ok : InstOk Tryd.prog G.1 Ilines_Number := iok (gives := gives) [Llines_Number_0p] (okCons Inum_Mul_ok (okCons Inum_Add_ok okNil)) 50 follows Tryd.func50 (by kernel_rfl) (fun x => by kernel_rfl) (Elines_Number Xnum_Mul Xnum_Add)

/- epact/zic.names -/
abbrev Tzic_names : Type := (Q29 → Prop) → Prop
def Yzic_names (K : Q29 → Prop) : Prop :=
 K (ByteArray.mk #[(106 : UInt8), (97 : UInt8), (110 : UInt8), (117 : UInt8), (97 : UInt8), (114 : UInt8), (121 : UInt8)], ByteArray.mk #[(102 : UInt8), (101 : UInt8), (98 : UInt8), (114 : UInt8), (117 : UInt8), (97 : UInt8), (114 : UInt8), (121 : UInt8)], ByteArray.mk #[(109 : UInt8), (97 : UInt8), (114 : UInt8), (99 : UInt8), (104 : UInt8)], ByteArray.mk #[(97 : UInt8), (112 : UInt8), (114 : UInt8), (105 : UInt8), (108 : UInt8)], ByteArray.mk #[(109 : UInt8), (97 : UInt8), (121 : UInt8)], ByteArray.mk #[(106 : UInt8), (117 : UInt8), (110 : UInt8), (101 : UInt8)], ByteArray.mk #[(106 : UInt8), (117 : UInt8), (108 : UInt8), (121 : UInt8)], ByteArray.mk #[(97 : UInt8), (117 : UInt8), (103 : UInt8), (117 : UInt8), (115 : UInt8), (116 : UInt8)], ByteArray.mk #[(115 : UInt8), (101 : UInt8), (112 : UInt8), (116 : UInt8), (101 : UInt8), (109 : UInt8), (98 : UInt8), (101 : UInt8), (114 : UInt8)], ByteArray.mk #[(111 : UInt8), (99 : UInt8), (116 : UInt8), (111 : UInt8), (98 : UInt8), (101 : UInt8), (114 : UInt8)], ByteArray.mk #[(110 : UInt8), (111 : UInt8), (118 : UInt8), (101 : UInt8), (109 : UInt8), (98 : UInt8), (101 : UInt8), (114 : UInt8)], ByteArray.mk #[(100 : UInt8), (101 : UInt8), (99 : UInt8), (101 : UInt8), (109 : UInt8), (98 : UInt8), (101 : UInt8), (114 : UInt8)], ())
def Xzic_names : Tzic_names := Yzic_names
def Jzic_names (X : Tzic_names) : Inst := mkI 35 .nil .nil pL30 .nil X
def Izic_names : Inst := Jzic_names Xzic_names
theorem Ezic_names : EqF Tryd.prog 2 gives Tryd.f35 [] [] (Jzic_names (Yzic_names)) := fun x y K => by kernel_rfl
theorem Izic_names_ok : InstOk Tryd.prog G.1 Izic_names := iok (gives := gives) [] okNil 2 follows Tryd.func35 (by kernel_rfl) (fun x => by kernel_rfl) (Ezic_names)

/- internal/stringslite.HasPrefix -/
abbrev Tinternal_stringslite_HasPrefix : Type := ByteArray → ByteArray → (Bool → Prop) → Prop
def Yinternal_stringslite_HasPrefix (a0 : ByteArray) (a1 : ByteArray) (K : Bool → Prop) : Prop :=
 (if decide ((↑(ByteArray.size a0) : Int) ≥ (↑(ByteArray.size a1) : Int)) then
 (if 0 ≤ (↑(ByteArray.size a1) : Int) ∧ (↑(ByteArray.size a1) : Int) ≤ (↑(ByteArray.size a0) : Int) then
 K (ByteArray.toList (ByteArray.extract a0 (0 : Nat) (Int.toNat (↑(ByteArray.size a1) : Int))) == ByteArray.toList a1)
 else
 False)
 else
 K false)
def Xinternal_stringslite_HasPrefix : Tinternal_stringslite_HasPrefix := Yinternal_stringslite_HasPrefix
def Jinternal_stringslite_HasPrefix (X : Tinternal_stringslite_HasPrefix) : Inst := mkI 62 pL0 .nil pL8 .nil X
def Iinternal_stringslite_HasPrefix : Inst := Jinternal_stringslite_HasPrefix Xinternal_stringslite_HasPrefix
theorem Einternal_stringslite_HasPrefix : EqF Tryd.prog 18 gives Tryd.f62 [] [] (Jinternal_stringslite_HasPrefix (Yinternal_stringslite_HasPrefix)) := fun x y K => by kernel_rfl
theorem Iinternal_stringslite_HasPrefix_ok : InstOk Tryd.prog G.1 Iinternal_stringslite_HasPrefix := iok (gives := gives) [] okNil 18 follows Tryd.func62 (by kernel_rfl) (fun x => by kernel_rfl) (Einternal_stringslite_HasPrefix)

/- strings.HasPrefix -/
abbrev Tstrings_HasPrefix : Type := ByteArray → ByteArray → (Bool → Prop) → Prop
def Ystrings_HasPrefix (xinternal_stringslite_HasPrefix : Tinternal_stringslite_HasPrefix) (a0 : ByteArray) (a1 : ByteArray) (K : Bool → Prop) : Prop :=
 xinternal_stringslite_HasPrefix a0 a1 (fun r2 =>
 K r2)
def Xstrings_HasPrefix : Tstrings_HasPrefix := Ystrings_HasPrefix Xinternal_stringslite_HasPrefix
def Jstrings_HasPrefix (X : Tstrings_HasPrefix) : Inst := mkI 36 pL0 .nil pL8 .nil X
def Istrings_HasPrefix : Inst := Jstrings_HasPrefix Xstrings_HasPrefix
theorem Estrings_HasPrefix (xinternal_stringslite_HasPrefix : Tinternal_stringslite_HasPrefix) : EqF Tryd.prog 8 gives Tryd.f36 [Jinternal_stringslite_HasPrefix xinternal_stringslite_HasPrefix] [] (Jstrings_HasPrefix (Ystrings_HasPrefix xinternal_stringslite_HasPrefix)) := fun x y K => by kernel_rfl
theorem Istrings_HasPrefix_ok : InstOk Tryd.prog G.1 Istrings_HasPrefix := iok (gives := gives) [] (okCons Iinternal_stringslite_HasPrefix_ok okNil) 8 follows Tryd.func36 (by kernel_rfl) (fun x => by kernel_rfl) (Estrings_HasPrefix Xinternal_stringslite_HasPrefix)

/- epact/zic.Month -/
abbrev Tzic_Month : Type := ByteArray → (Int → Bool → Prop) → Prop
def Lzic_Month_0 (xstrings_HasPrefix : Tstrings_HasPrefix) (K : Int → Bool → Prop) : (Q31 → Prop) → Q31 → Prop := fun k3 x4 =>
 (if decide (x4.1.2.2.2.2.1 < 12) then
 (if 0 ≤ x4.1.2.2.2.2.1 ∧ x4.1.2.2.2.2.1 < 12 then
 (Eng.asStr ([Eng.V.c (Value.string x4.1.2.2.2.1.1), Eng.V.c (Value.string x4.1.2.2.2.1.2.1), Eng.V.c (Value.string x4.1.2.2.2.1.2.2.1), Eng.V.c (Value.string x4.1.2.2.2.1.2.2.2.1), Eng.V.c (Value.string x4.1.2.2.2.1.2.2.2.2.1), Eng.V.c (Value.string x4.1.2.2.2.1.2.2.2.2.2.1), Eng.V.c (Value.string x4.1.2.2.2.1.2.2.2.2.2.2.1), Eng.V.c (Value.string x4.1.2.2.2.1.2.2.2.2.2.2.2.1), Eng.V.c (Value.string x4.1.2.2.2.1.2.2.2.2.2.2.2.2.1), Eng.V.c (Value.string x4.1.2.2.2.1.2.2.2.2.2.2.2.2.2.1), Eng.V.c (Value.string x4.1.2.2.2.1.2.2.2.2.2.2.2.2.2.2.1), Eng.V.c (Value.string x4.1.2.2.2.1.2.2.2.2.2.2.2.2.2.2.2.1)][Int.toNat x4.1.2.2.2.2.1 * (1 : Nat)]?) False fun t5 =>
 (if decide ((↑(ByteArray.size x4.1.2.2.1) : Int) > 2) then
 xstrings_HasPrefix t5 x4.1.2.2.1 (fun r6 =>
 (if r6 then
 K (w64 (x4.1.2.2.2.2.1 + 1)) true
 else
 k3 ((x4.1.1, x4.1.2.1, x4.1.2.2.1, x4.1.2.2.2.1, w64 (x4.1.2.2.2.2.1 + 1), ()), ())))
 else
 k3 ((x4.1.1, x4.1.2.1, x4.1.2.2.1, x4.1.2.2.2.1, w64 (x4.1.2.2.2.2.1 + 1), ()), ())))
 else
 False)
 else
 K 0 false)
def Lzic_Month_0p : Lp := ⟨1564, [.trim 1564], pT32, .nil, 0⟩
def Yzic_Month (xlines_Fold : Tlines_Fold) (xzic_names : Tzic_names) (xstrings_HasPrefix : Tstrings_HasPrefix) (a0 : ByteArray) (K : Int → Bool → Prop) : Prop :=
 xlines_Fold a0 (fun r1 =>
 xzic_names (fun r2 =>
 lp (Lzic_Month_0 xstrings_HasPrefix K) ((0, false, r1, r2, 0, ()), ())))
def Xzic_Month : Tzic_Month := Yzic_Month Xlines_Fold Xzic_names Xstrings_HasPrefix
def Jzic_Month (X : Tzic_Month) : Inst := mkI 20 pL9 .nil pL25 .nil X
def Izic_Month : Inst := Jzic_Month Xzic_Month
theorem Ezic_Month (xlines_Fold : Tlines_Fold) (xzic_names : Tzic_names) (xstrings_HasPrefix : Tstrings_HasPrefix) : EqF Tryd.prog 25 gives Tryd.f20 [Jlines_Fold xlines_Fold, Jzic_names xzic_names, Jstrings_HasPrefix xstrings_HasPrefix] [Lzic_Month_0p] (Jzic_Month (Yzic_Month xlines_Fold xzic_names xstrings_HasPrefix)) := fun x y K => by kernel_rfl
theorem Izic_Month_ok : InstOk Tryd.prog G.1 Izic_Month := iok (gives := gives) [Lzic_Month_0p] (okCons Ilines_Fold_ok (okCons Izic_names_ok (okCons Istrings_HasPrefix_ok okNil))) 25 follows Tryd.func20 (by kernel_rfl) (fun x => by kernel_rfl) (Ezic_Month Xlines_Fold Xzic_names Xstrings_HasPrefix)

/- strings.SplitN -/
abbrev Tstrings_SplitN : Type := ByteArray → ByteArray → Int → ((List Eng.V) → Bool → Bool → Prop) → Prop
def Ystrings_SplitN (xstrings_genSplit : Tstrings_genSplit) (a0 : ByteArray) (a1 : ByteArray) (a2 : Int) (K : (List Eng.V) → Bool → Bool → Prop) : Prop :=
 xstrings_genSplit a0 a1 0 a2 (fun r3 r4 r5 =>
 K r3 r4 r5)
def Xstrings_SplitN : Tstrings_SplitN := Ystrings_SplitN Xstrings_genSplit
def Jstrings_SplitN (X : Tstrings_SplitN) : Inst := mkI 49 pL33 .nil pL6 pH7 X
def Istrings_SplitN : Inst := Jstrings_SplitN Xstrings_SplitN
theorem Estrings_SplitN (xstrings_genSplit : Tstrings_genSplit) : EqF Tryd.prog 11 gives Tryd.f49 [Jstrings_genSplit xstrings_genSplit] [] (Jstrings_SplitN (Ystrings_SplitN xstrings_genSplit)) := fun x y K => by kernel_rfl
theorem Istrings_SplitN_ok : InstOk Tryd.prog G.1 Istrings_SplitN := iok (gives := gives) [] (okCons Istrings_genSplit_ok okNil) 11 follows Tryd.func49 (by kernel_rfl) (fun x => by kernel_rfl) (Estrings_SplitN Xstrings_genSplit)

/- epact/stamp.Second -/
abbrev Tstamp_Second : Type := Int → Int → Int → (Int → Bool → Prop) → Prop
def Ystamp_Second (a0 : Int) (a1 : Int) (a2 : Int) (K : Int → Bool → Prop) : Prop :=
 (if (a0 == 23) then
 (if (a1 == 59) then
 (if (a2 == 60) then
 K 86400 true
 else
 (lt (if a2 < if a1 < a0 then a1 else a0 then a2 else if a1 < a0 then a1 else a0) fun v3 =>
 (if decide (v3 < 0) then
 K 0 false
 else
 (if decide (a0 > 23) then
 K 0 false
 else
 (if decide (a1 > 59) then
 K 0 false
 else
 (if decide (a2 > 59) then
 K 0 false
 else
 (lt (w64 (w64 (a0 * 60) + a1)) fun v4 =>
 (lt (w64 (w64 (v4 * 60) + a2)) fun v5 =>
 K v5 true))))))))
 else
 (lt (if a2 < if a1 < a0 then a1 else a0 then a2 else if a1 < a0 then a1 else a0) fun v6 =>
 (if decide (v6 < 0) then
 K 0 false
 else
 (if decide (a0 > 23) then
 K 0 false
 else
 (if decide (a1 > 59) then
 K 0 false
 else
 (if decide (a2 > 59) then
 K 0 false
 else
 (lt (w64 (w64 (a0 * 60) + a1)) fun v7 =>
 (lt (w64 (w64 (v7 * 60) + a2)) fun v8 =>
 K v8 true))))))))
 else
 (lt (if a2 < if a1 < a0 then a1 else a0 then a2 else if a1 < a0 then a1 else a0) fun v9 =>
 (if decide (v9 < 0) then
 K 0 false
 else
 (if decide (a0 > 23) then
 K 0 false
 else
 (if decide (a1 > 59) then
 K 0 false
 else
 (if decide (a2 > 59) then
 K 0 false
 else
 (lt (w64 (w64 (a0 * 60) + a1)) fun v10 =>
 (lt (w64 (w64 (v10 * 60) + a2)) fun v11 =>
 K v11 true))))))))
def Xstamp_Second : Tstamp_Second := Ystamp_Second
def Jstamp_Second (X : Tstamp_Second) : Inst := mkI 51 pL34 .nil pL25 .nil X
def Istamp_Second : Inst := Jstamp_Second Xstamp_Second
theorem Estamp_Second : EqF Tryd.prog 42 gives Tryd.f51 [] [] (Jstamp_Second (Ystamp_Second)) := fun x y K => by kernel_rfl
theorem Istamp_Second_ok : InstOk Tryd.prog G.1 Istamp_Second := iok (gives := gives) [] okNil 42 follows Tryd.func51 (by kernel_rfl) (fun x => by kernel_rfl) (Estamp_Second)

/- epact/zic.Clock -/
abbrev Tzic_Clock : Type := ByteArray → (Int → Bool → Prop) → Prop
def Lzic_Clock_0 (xlines_Number : Tlines_Number) (xstamp_Second : Tstamp_Second) (K : Int → Bool → Prop) : (Q35 → Prop) → Q35 → Prop := fun k4 x5 =>
 (if decide (x5.1.2.2.2.2.2.1 < x5.1.2.2.2.2.1) then
 (if 0 ≤ x5.1.2.2.2.2.2.1 ∧ x5.1.2.2.2.2.2.1 < (↑(List.length x5.2.2.1.1) : Int) then
 (Eng.asStr (Eng.getC x5.2.2.1.1 (Int.toNat x5.1.2.2.2.2.2.1) (0 : Nat)) False fun t6 =>
 xlines_Number t6 (fun r7 r8 =>
 (if (!r8) then
 K 0 false
 else
 (if decide ((↑(ByteArray.size t6) : Int) > 2) then
 K 0 false
 else
 (if 0 ≤ x5.1.2.2.2.2.2.1 ∧ x5.1.2.2.2.2.2.1 < 3 then
 (if (0 : Nat) < List.length x5.2.1 then
 (if (0 : Nat) + Int.toNat x5.1.2.2.2.2.2.1 * (1 : Nat) + List.length [Eng.V.c (Value.int IntKind.i64 r7)] ≤ (3 : Nat) then
 (lt (List.set x5.2.1 (0 : Nat) (Eng.setE (List.getD x5.2.1 (0 : Nat) Eng.V.bad) ((0 : Nat) + Int.toNat x5.1.2.2.2.2.2.1 * (1 : Nat)) [Eng.V.c (Value.int IntKind.i64 r7)])) fun v9 =>
 k4 ((x5.1.1, x5.1.2.1, (), (), x5.1.2.2.2.2.1, w64 (x5.1.2.2.2.2.2.1 + 1), ()), v9, x5.2.2))
 else
 False)
 else
 False)
 else
 False)))))
 else
 False)
 else
 (Eng.asInt IntKind.i64 (Eng.getC x5.2.1 (0 : Nat) (0 : Nat)) False fun n10 =>
 (Eng.asInt IntKind.i64 (Eng.getC x5.2.1 (0 : Nat) (1 : Nat)) False fun n11 =>
 (Eng.asInt IntKind.i64 (Eng.getC x5.2.1 (0 : Nat) (2 : Nat)) False fun n12 =>
 xstamp_Second n10 n11 n12 (fun r13 r14 =>
 K r13 r14)))))
def Lzic_Clock_0p : Lp := ⟨229404, [.trim 229404], pT36, pH37, 0⟩
def Yzic_Clock (xstrings_SplitN : Tstrings_SplitN) (xlines_Number : Tlines_Number) (xstamp_Second : Tstamp_Second) (a0 : ByteArray) (K : Int → Bool → Prop) : Prop :=
 xstrings_SplitN a0 (ByteArray.mk #[(58 : UInt8)]) 3 (fun r1 r2 r3 =>
 (if decide ((↑(List.length r1) : Int) < 3) then
 K 0 false
 else
 lp (Lzic_Clock_0 xlines_Number xstamp_Second K) ((0, false, (), (), (↑(List.length r1) : Int), 0, ()), [Eng.V.agg [Eng.V.c (Value.int IntKind.i64 0), Eng.V.c (Value.int IntKind.i64 0), Eng.V.c (Value.int IntKind.i64 0)]], (r1, r2, r3), ())))
def Xzic_Clock : Tzic_Clock := Yzic_Clock Xstrings_SplitN Xlines_Number Xstamp_Second
def Jzic_Clock (X : Tzic_Clock) : Inst := mkI 27 pL9 .nil pL25 .nil X
def Izic_Clock : Inst := Jzic_Clock Xzic_Clock
theorem Ezic_Clock (xstrings_SplitN : Tstrings_SplitN) (xlines_Number : Tlines_Number) (xstamp_Second : Tstamp_Second) : EqF Tryd.prog 47 gives Tryd.f27 [Jstrings_SplitN xstrings_SplitN, Jlines_Number xlines_Number, Jstamp_Second xstamp_Second] [Lzic_Clock_0p] (Jzic_Clock (Yzic_Clock xstrings_SplitN xlines_Number xstamp_Second)) := fun x y K => by kernel_rfl
theorem Izic_Clock_ok : InstOk Tryd.prog G.1 Izic_Clock := iok (gives := gives) [Lzic_Clock_0p] (okCons Istrings_SplitN_ok (okCons Ilines_Number_ok (okCons Istamp_Second_ok okNil))) 47 follows Tryd.func27 (by kernel_rfl) (fun x => by kernel_rfl) (Ezic_Clock Xstrings_SplitN Xlines_Number Xstamp_Second)

/- epact/zic.date -/
abbrev Tzic_date : Type := Int → (List Eng.V) → (Q38 → Bool → Prop) → Prop
def Yzic_date (xlines_Number : Tlines_Number) (xzic_Month : Tzic_Month) (xzic_Clock : Tzic_Clock) (a0 : Int) (a1 : (List Eng.V)) (K : Q38 → Bool → Prop) : Prop :=
 (if (0 :Int) ≤ 1 ∧ 1 < (↑(List.length a1) : Int) then
 (Eng.asStr (Eng.getC a1 (1 : Nat) (0 : Nat)) False fun t2 =>
 xlines_Number t2 (fun r3 r4 =>
 (if (0 :Int) ≤ 2 ∧ 2 < (↑(List.length a1) : Int) then
 (Eng.asStr (Eng.getC a1 (2 : Nat) (0 : Nat)) False fun t5 =>
 xzic_Month t5 (fun r6 r7 =>
 (if (0 :Int) ≤ 3 ∧ 3 < (↑(List.length a1) : Int) then
 (Eng.asStr (Eng.getC a1 (3 : Nat) (0 : Nat)) False fun t8 =>
 xlines_Number t8 (fun r9 r10 =>
 (if (0 :Int) ≤ 4 ∧ 4 < (↑(List.length a1) : Int) then
 (Eng.asStr (Eng.getC a1 (4 : Nat) (0 : Nat)) False fun t11 =>
 xzic_Clock t11 (fun r12 r13 =>
 (if r4 then
 (if r7 then
 (if r10 then
 K (a0, r3, r6, r9, r12, ByteArray.mk #[], false, ()) r13
 else
 K (a0, r3, r6, r9, r12, ByteArray.mk #[], false, ()) false)
 else
 K (a0, r3, r6, r9, r12, ByteArray.mk #[], false, ()) false)
 else
 K (a0, r3, r6, r9, r12, ByteArray.mk #[], false, ()) false)))
 else
 False)))
 else
 False)))
 else
 False)))
 else
 False)
def Xzic_date : Tzic_date := Yzic_date Xlines_Number Xzic_Month Xzic_Clock
def Jzic_date (X : Tzic_date) : Inst := mkI 77 pL39 .nil pL40 .nil X
def Izic_date : Inst := Jzic_date Xzic_date
theorem Ezic_date (xlines_Number : Tlines_Number) (xzic_Month : Tzic_Month) (xzic_Clock : Tzic_Clock) : EqF Tryd.prog 58 gives Tryd.f77 [Jlines_Number xlines_Number, Jzic_Month xzic_Month, Jzic_Clock xzic_Clock] [] (Jzic_date (Yzic_date xlines_Number xzic_Month xzic_Clock)) := fun x y K => by kernel_rfl
theorem Izic_date_ok : InstOk Tryd.prog G.1 Izic_date := iok (gives := gives) [] (okCons Ilines_Number_ok (okCons Izic_Month_ok (okCons Izic_Clock_ok okNil))) 58 follows Tryd.func77 (by kernel_rfl) (fun x => by kernel_rfl) (Ezic_date Xlines_Number Xzic_Month Xzic_Clock)

/- epact/zic.roll -/
abbrev Tzic_roll : Type := ByteArray → (Bool → Bool → Prop) → Prop
def Yzic_roll (xlines_Fold : Tlines_Fold) (xstrings_HasPrefix : Tstrings_HasPrefix) (a0 : ByteArray) (K : Bool → Bool → Prop) : Prop :=
 xlines_Fold a0 (fun r1 =>
 xstrings_HasPrefix (ByteArray.mk #[(114 : UInt8), (111 : UInt8), (108 : UInt8), (108 : UInt8), (105 : UInt8), (110 : UInt8), (103 : UInt8)]) r1 (fun r2 =>
 (if r2 then
 K r2 true
 else
 xstrings_HasPrefix (ByteArray.mk #[(115 : UInt8), (116 : UInt8), (97 : UInt8), (116 : UInt8), (105 : UInt8), (111 : UInt8), (110 : UInt8), (97 : UInt8), (114 : UInt8), (121 : UInt8)]) r1 (fun r3 =>
 K r2 r3))))
def Xzic_roll : Tzic_roll := Yzic_roll Xlines_Fold Xstrings_HasPrefix
def Jzic_roll (X : Tzic_roll) : Inst := mkI 78 pL9 .nil pL41 .nil X
def Izic_roll : Inst := Jzic_roll Xzic_roll
theorem Ezic_roll (xlines_Fold : Tlines_Fold) (xstrings_HasPrefix : Tstrings_HasPrefix) : EqF Tryd.prog 15 gives Tryd.f78 [Jlines_Fold xlines_Fold, Jstrings_HasPrefix xstrings_HasPrefix] [] (Jzic_roll (Yzic_roll xlines_Fold xstrings_HasPrefix)) := fun x y K => by kernel_rfl
theorem Izic_roll_ok : InstOk Tryd.prog G.1 Izic_roll := iok (gives := gives) [] (okCons Ilines_Fold_ok (okCons Istrings_HasPrefix_ok okNil)) 15 follows Tryd.func78 (by kernel_rfl) (fun x => by kernel_rfl) (Ezic_roll Xlines_Fold Xstrings_HasPrefix)

/- epact/zic.read -/
abbrev Tzic_read : Type := (List Eng.V) → (Q38 → Bool → Prop) → Prop
def Yzic_read (xlines_Fold : Tlines_Fold) (xzic_date : Tzic_date) (xzic_roll : Tzic_roll) (a0 : (List Eng.V)) (K : Q38 → Bool → Prop) : Prop :=
 (if (0 :Int) ≤ 0 ∧ 0 < (↑(List.length a0) : Int) then
 (Eng.asStr (Eng.getC a0 (0 : Nat) (0 : Nat)) False fun t1 =>
 xlines_Fold t1 (fun r2 =>
 (if (ByteArray.toList r2 == ByteArray.toList (ByteArray.mk #[(108 : UInt8), (101 : UInt8), (97 : UInt8), (112 : UInt8)])) then
 (if ((↑(List.length a0) : Int) == 7) then
 xzic_date 0 a0 (fun r3 r4 =>
 (if (0 :Int) ≤ 6 ∧ 6 < (↑(List.length a0) : Int) then
 (Eng.asStr (Eng.getC a0 (6 : Nat) (0 : Nat)) False fun t5 =>
 xzic_roll t5 (fun r6 r7 =>
 (if (0 :Int) ≤ 5 ∧ 5 < (↑(List.length a0) : Int) then
 (Eng.asStr (Eng.getC a0 (5 : Nat) (0 : Nat)) False fun t8 =>
 (if (ByteArray.toList t8 == ByteArray.toList (ByteArray.mk #[(43 : UInt8)])) then
 (if (ByteArray.toList t8 == ByteArray.toList (ByteArray.mk #[(43 : UInt8)])) then
 (if r4 then
 K (r3.1, r3.2.1, r3.2.2.1, r3.2.2.2.1, r3.2.2.2.2.1, t8, r6, ()) r7
 else
 K (r3.1, r3.2.1, r3.2.2.1, r3.2.2.2.1, r3.2.2.2.2.1, t8, r6, ()) false)
 else
 K (r3.1, r3.2.1, r3.2.2.1, r3.2.2.2.1, r3.2.2.2.2.1, t8, r6, ()) false)
 else
 (if (ByteArray.toList t8 == ByteArray.toList (ByteArray.mk #[(45 : UInt8)])) then
 (if r4 then
 K (r3.1, r3.2.1, r3.2.2.1, r3.2.2.2.1, r3.2.2.2.2.1, t8, r6, ()) r7
 else
 K (r3.1, r3.2.1, r3.2.2.1, r3.2.2.2.1, r3.2.2.2.2.1, t8, r6, ()) false)
 else
 K (r3.1, r3.2.1, r3.2.2.1, r3.2.2.2.1, r3.2.2.2.2.1, t8, r6, ()) false)))
 else
 False)))
 else
 False))
 else
 (lt (ByteArray.toList r2 == ByteArray.toList (ByteArray.mk #[(101 : UInt8), (120 : UInt8), (112 : UInt8), (105 : UInt8), (114 : UInt8), (101 : UInt8), (115 : UInt8)])) fun v9 =>
 (if v9 then
 (if ((↑(List.length a0) : Int) == 5) then
 xzic_date 1 a0 (fun r10 r11 =>
 K r10 r11)
 else
 K (0, 0, 0, 0, 0, ByteArray.mk #[], false, ()) false)
 else
 K (0, 0, 0, 0, 0, ByteArray.mk #[], false, ()) false)))
 else
 (lt (ByteArray.toList r2 == ByteArray.toList (ByteArray.mk #[(101 : UInt8), (120 : UInt8), (112 : UInt8), (105 : UInt8), (114 : UInt8), (101 : UInt8), (115 : UInt8)])) fun v12 =>
 (if v12 then
 (if ((↑(List.length a0) : Int) == 5) then
 xzic_date 1 a0 (fun r13 r14 =>
 K r13 r14)
 else
 K (0, 0, 0, 0, 0, ByteArray.mk #[], false, ()) false)
 else
 K (0, 0, 0, 0, 0, ByteArray.mk #[], false, ()) false)))))
 else
 False)
def Xzic_read : Tzic_read := Yzic_read Xlines_Fold Xzic_date Xzic_roll
def Jzic_read (X : Tzic_read) : Inst := mkI 57 pL42 .nil pL40 .nil X
def Izic_read : Inst := Jzic_read Xzic_read
theorem Ezic_read (xlines_Fold : Tlines_Fold) (xzic_date : Tzic_date) (xzic_roll : Tzic_roll) : EqF Tryd.prog 61 gives Tryd.f57 [Jlines_Fold xlines_Fold, Jzic_date xzic_date, Jzic_roll xzic_roll] [] (Jzic_read (Yzic_read xlines_Fold xzic_date xzic_roll)) := fun x y K => by kernel_rfl
theorem Izic_read_ok : InstOk Tryd.prog G.1 Izic_read := iok (gives := gives) [] (okCons Ilines_Fold_ok (okCons Izic_date_ok (okCons Izic_roll_ok okNil))) 61 follows Tryd.func57 (by kernel_rfl) (fun x => by kernel_rfl) (Ezic_read Xlines_Fold Xzic_date Xzic_roll)

/- epact/day.Leap -/
abbrev Tday_Leap : Type := Int → (Bool → Prop) → Prop
def Yday_Leap (a0 : Int) (K : Bool → Prop) : Prop :=
 (if (Int.tmod a0 (4 :Int) == 0) then
 (if (Int.tmod a0 (100 :Int) != 0) then
 K true
 else
 K (Int.tmod a0 (400 :Int) == 0))
 else
 K false)
def Xday_Leap : Tday_Leap := Yday_Leap
def Jday_Leap (X : Tday_Leap) : Inst := mkI 98 pL1 .nil pL8 .nil X
def Iday_Leap : Inst := Jday_Leap Xday_Leap
theorem Eday_Leap : EqF Tryd.prog 16 gives Tryd.f98 [] [] (Jday_Leap (Yday_Leap)) := fun x y K => by kernel_rfl
theorem Iday_Leap_ok : InstOk Tryd.prog G.1 Iday_Leap := iok (gives := gives) [] okNil 16 follows Tryd.func98 (by kernel_rfl) (fun x => by kernel_rfl) (Eday_Leap)

/- epact/day.Last -/
abbrev Tday_Last : Type := Int → Int → (Int → Bool → Prop) → Prop
def Yday_Last (xday_Leap : Tday_Leap) (a0 : Int) (a1 : Int) (K : Int → Bool → Prop) : Prop :=
 (if decide (a0 < 1) then
 K 0 false
 else
 (if decide (a0 > 9999) then
 K 0 false
 else
 (if decide (a1 < 1) then
 K 0 false
 else
 (if decide (a1 > 12) then
 K 0 false
 else
 (if 0 ≤ w64 (a1 - 1) ∧ w64 (a1 - 1) < 12 then
 (Eng.asInt IntKind.i64 ([Eng.V.c (Value.int IntKind.i64 31), Eng.V.c (Value.int IntKind.i64 28), Eng.V.c (Value.int IntKind.i64 31), Eng.V.c (Value.int IntKind.i64 30), Eng.V.c (Value.int IntKind.i64 31), Eng.V.c (Value.int IntKind.i64 30), Eng.V.c (Value.int IntKind.i64 31), Eng.V.c (Value.int IntKind.i64 31), Eng.V.c (Value.int IntKind.i64 30), Eng.V.c (Value.int IntKind.i64 31), Eng.V.c (Value.int IntKind.i64 30), Eng.V.c (Value.int IntKind.i64 31)][Int.toNat (w64 (a1 - 1)) * (1 : Nat)]?) False fun n2 =>
 (if (a1 == 2) then
 xday_Leap a0 (fun r3 =>
 (if r3 then
 K (w64 (n2 + 1)) true
 else
 K n2 true))
 else
 K n2 true))
 else
 False)))))
def Xday_Last : Tday_Last := Yday_Last Xday_Leap
def Jday_Last (X : Tday_Last) : Inst := mkI 79 pL24 .nil pL25 .nil X
def Iday_Last : Inst := Jday_Last Xday_Last
theorem Eday_Last (xday_Leap : Tday_Leap) : EqF Tryd.prog 34 gives Tryd.f79 [Jday_Leap xday_Leap] [] (Jday_Last (Yday_Last xday_Leap)) := fun x y K => by kernel_rfl
theorem Iday_Last_ok : InstOk Tryd.prog G.1 Iday_Last := iok (gives := gives) [] (okCons Iday_Leap_ok okNil) 34 follows Tryd.func79 (by kernel_rfl) (fun x => by kernel_rfl) (Eday_Last Xday_Leap)

/- epact/num.Div -/
abbrev Tnum_Div : Type := Int → Int → (Int → Int → Bool → Prop) → Prop
def Ynum_Div (a0 : Int) (a1 : Int) (K : Int → Int → Bool → Prop) : Prop :=
 (if decide (a1 < 1) then
 K 0 0 false
 else
 (if a1 = 0 then
 False
 else
 (if a1 = 0 then
 False
 else
 (if decide (Int.tmod a0 a1 < 0) then
 (lt (w64 (w64 (Int.tdiv a0 a1) - 1)) fun v2 =>
 K v2 (w64 (Int.tmod a0 a1 + a1)) true)
 else
 K (w64 (Int.tdiv a0 a1)) (Int.tmod a0 a1) true))))
def Xnum_Div : Tnum_Div := Ynum_Div
def Jnum_Div (X : Tnum_Div) : Inst := mkI 74 pL24 .nil pL43 .nil X
def Inum_Div : Inst := Jnum_Div Xnum_Div
theorem Enum_Div : EqF Tryd.prog 24 gives Tryd.f74 [] [] (Jnum_Div (Ynum_Div)) := fun x y K => by kernel_rfl
theorem Inum_Div_ok : InstOk Tryd.prog G.1 Inum_Div := iok (gives := gives) [] okNil 24 follows Tryd.func74 (by kernel_rfl) (fun x => by kernel_rfl) (Enum_Div)

/- epact/day.Number -/
abbrev Tday_Number : Type := Int → Int → Int → (Int → Bool → Prop) → Prop
def Yday_Number (xday_Last : Tday_Last) (xnum_Div : Tnum_Div) (a0 : Int) (a1 : Int) (a2 : Int) (K : Int → Bool → Prop) : Prop :=
 xday_Last a0 a1 (fun r3 r4 =>
 (if (!r4) then
 K 0 false
 else
 (if decide (a2 < 1) then
 K 0 false
 else
 (if decide (a2 > r3) then
 K 0 false
 else
 (if decide (a1 < 3) then
 xnum_Div (w64 (a0 - 1)) 400 (fun r5 r6 r7 =>
 (lt (w64 (w64 (a1 + 12) - 3)) fun v8 =>
 (lt (w64 (w64 (153 * v8) + 2)) fun v9 =>
 (lt (w64 (w64 (Int.tdiv v9 5) + a2)) fun v10 =>
 (lt (w64 (w64 (146097 * r5) + w64 (365 * r6))) fun v11 =>
 (lt (w64 (v11 + w64 (Int.tdiv r6 4))) fun v12 =>
 (lt (w64 (v12 - w64 (Int.tdiv r6 100))) fun v13 =>
 (lt (w64 (v13 + w64 (v10 - 1))) fun v14 =>
 K (w64 (v14 - 719468)) true))))))))
 else
 xnum_Div a0 400 (fun r15 r16 r17 =>
 (lt (w64 (153 * w64 (a1 - 3))) fun v18 =>
 (lt (w64 (Int.tdiv (w64 (v18 + 2)) 5)) fun v19 =>
 (lt (w64 (w64 (v19 + a2) - 1)) fun v20 =>
 (lt (w64 (w64 (146097 * r15) + w64 (365 * r16))) fun v21 =>
 (lt (w64 (v21 + w64 (Int.tdiv r16 4))) fun v22 =>
 (lt (w64 (v22 - w64 (Int.tdiv r16 100))) fun v23 =>
 (lt (w64 (w64 (v23 + v20) - 719468)) fun v24 =>
 K v24 true)))))))))))))
def Xday_Number : Tday_Number := Yday_Number Xday_Last Xnum_Div
def Jday_Number (X : Tday_Number) : Inst := mkI 58 pL34 .nil pL25 .nil X
def Iday_Number : Inst := Jday_Number Xday_Number
theorem Eday_Number (xday_Last : Tday_Last) (xnum_Div : Tnum_Div) : EqF Tryd.prog 65 gives Tryd.f58 [Jday_Last xday_Last, Jnum_Div xnum_Div] [] (Jday_Number (Yday_Number xday_Last xnum_Div)) := fun x y K => by kernel_rfl
theorem Iday_Number_ok : InstOk Tryd.prog G.1 Iday_Number := iok (gives := gives) [] (okCons Iday_Last_ok (okCons Inum_Div_ok okNil)) 65 follows Tryd.func58 (by kernel_rfl) (fun x => by kernel_rfl) (Eday_Number Xday_Last Xnum_Div)

/- slices.Clone[[]epact/api.Leap,epact/api.Leap] -/
abbrev Tslices_Clone___api_Leap_api_Leap_ : Type := (List Eng.V) → ((List Eng.V) → Bool → Bool → Prop) → Prop
def Yslices_Clone___api_Leap_api_Leap_ (a0 : (List Eng.V)) (K : (List Eng.V) → Bool → Bool → Prop) : Prop :=
 (if List.length a0 = (0 : Nat) then
 (
 K [] true true
 ∧
 (if Eng.roomOk ((0 : Nat) + List.length a0) (24 : Nat) then
 K ([] ++ a0) true false
 else
 False))
 else
 (if Eng.roomOk ((0 : Nat) + List.length a0) (24 : Nat) then
 K ([] ++ a0) true false
 else
 False))
def Xslices_Clone___api_Leap_api_Leap_ : Tslices_Clone___api_Leap_api_Leap_ := Yslices_Clone___api_Leap_api_Leap_
def Jslices_Clone___api_Leap_api_Leap_ (X : Tslices_Clone___api_Leap_api_Leap_) : Inst := mkI 99 pL44 .nil pL6 pH45 X
def Islices_Clone___api_Leap_api_Leap_ : Inst := Jslices_Clone___api_Leap_api_Leap_ Xslices_Clone___api_Leap_api_Leap_
theorem Eslices_Clone___api_Leap_api_Leap_ : EqF Tryd.prog 8 gives Tryd.f99 [] [] (Jslices_Clone___api_Leap_api_Leap_ (Yslices_Clone___api_Leap_api_Leap_)) := fun x y K => by kernel_rfl
theorem Islices_Clone___api_Leap_api_Leap__ok : InstOk Tryd.prog G.1 Islices_Clone___api_Leap_api_Leap_ := iok (gives := gives) [] okNil 8 follows Tryd.func99 (by kernel_rfl) (fun x => by kernel_rfl) (Eslices_Clone___api_Leap_api_Leap_)

/- epact/day.Date -/
abbrev Tday_Date : Type := Int → (Int → Int → Int → Bool → Prop) → Prop
def Yday_Date (xnum_Div : Tnum_Div) (a0 : Int) (K : Int → Int → Int → Bool → Prop) : Prop :=
 (if decide (a0 < (-719162)) then
 K 0 0 0 false
 else
 (if decide (a0 > 2932896) then
 K 0 0 0 false
 else
 xnum_Div (w64 (a0 + 719468)) 146097 (fun r1 r2 r3 =>
 (lt (w64 (r2 - w64 (Int.tdiv r2 1460))) fun v4 =>
 (lt (w64 (v4 + w64 (Int.tdiv r2 36524))) fun v5 =>
 (lt (w64 (v5 - w64 (Int.tdiv r2 146096))) fun v6 =>
 (lt (w64 (365 * w64 (Int.tdiv v6 365))) fun v7 =>
 (lt (w64 (Int.tdiv (w64 (Int.tdiv v6 365)) 4)) fun v8 =>
 (lt (w64 (Int.tdiv (w64 (Int.tdiv v6 365)) 100)) fun v9 =>
 (lt (w64 (w64 (v7 + v8) - v9)) fun v10 =>
 (lt (w64 (5 * w64 (r2 - v10))) fun v11 =>
 (lt (w64 (Int.tdiv (w64 (v11 + 2)) 153)) fun v12 =>
 (lt (w64 (w64 (153 * v12) + 2)) fun v13 =>
 (lt (w64 (w64 (r2 - v10) - w64 (Int.tdiv v13 5))) fun v14 =>
 (if decide (w64 (v12 + 3) > 12) then
 (lt (w64 (w64 (v12 + 3) - 12)) fun v15 =>
 (lt (w64 (w64 (Int.tdiv v6 365) + 1)) fun v16 =>
 (lt (w64 (w64 (400 * r1) + v16)) fun v17 =>
 K v17 v15 (w64 (v14 + 1)) true)))
 else
 (lt (w64 (w64 (400 * r1) + w64 (Int.tdiv v6 365))) fun v18 =>
 K v18 (w64 (v12 + 3)) (w64 (v14 + 1)) true))))))))))))))))
def Xday_Date : Tday_Date := Yday_Date Xnum_Div
def Jday_Date (X : Tday_Date) : Inst := mkI 52 pL1 .nil pL46 .nil X
def Iday_Date : Inst := Jday_Date Xday_Date
theorem Eday_Date (xnum_Div : Tnum_Div) : EqF Tryd.prog 69 gives Tryd.f52 [Jnum_Div xnum_Div] [] (Jday_Date (Yday_Date xnum_Div)) := fun x y K => by kernel_rfl
theorem Iday_Date_ok : InstOk Tryd.prog G.1 Iday_Date := iok (gives := gives) [] (okCons Inum_Div_ok okNil) 69 follows Tryd.func52 (by kernel_rfl) (fun x => by kernel_rfl) (Eday_Date Xnum_Div)

/- epact/day.End -/
abbrev Tday_End : Type := Int → (Bool → Prop) → Prop
def Yday_End (xday_Date : Tday_Date) (xday_Last : Tday_Last) (a0 : Int) (K : Bool → Prop) : Prop :=
 xday_Date a0 (fun r1 r2 r3 r4 =>
 xday_Last r1 r2 (fun r5 r6 =>
 (if r4 then
 K (r3 == r5)
 else
 K false)))
def Xday_End : Tday_End := Yday_End Xday_Date Xday_Last
def Jday_End (X : Tday_End) : Inst := mkI 75 pL1 .nil pL8 .nil X
def Iday_End : Inst := Jday_End Xday_End
theorem Eday_End (xday_Date : Tday_Date) (xday_Last : Tday_Last) : EqF Tryd.prog 28 gives Tryd.f75 [Jday_Date xday_Date, Jday_Last xday_Last] [] (Jday_End (Yday_End xday_Date xday_Last)) := fun x y K => by kernel_rfl
theorem Iday_End_ok : InstOk Tryd.prog G.1 Iday_End := iok (gives := gives) [] (okCons Iday_Date_ok (okCons Iday_Last_ok okNil)) 28 follows Tryd.func75 (by kernel_rfl) (fun x => by kernel_rfl) (Eday_End Xday_Date Xday_Last)

/- epact/leap.wrong -/
abbrev Tleap_wrong : Type := Int → Q47 → Int → (Int → Prop) → Prop
def Yleap_wrong (xday_End : Tday_End) (a0 : Int) (a1 : Q47) (a2 : Int) (K : Int → Prop) : Prop :=
 (if decide (a0 ≥ 200) then
 K 8
 else
 (if decide (a1.1 < 730) then
 (if decide (a1.1 < 730) then
 K 9
 else
 xday_End a1.1 (fun r3 =>
 (if (!r3) then
 K 5
 else
 (if (a1.2.1 != 1) then
 (if (a1.2.1 != (-1)) then
 K 6
 else
 (if decide (a1.1 ≤ a2) then
 K 4
 else
 K 0))
 else
 (if decide (a1.1 ≤ a2) then
 K 4
 else
 K 0)))))
 else
 (if decide (a1.1 ≥ 2932896) then
 K 9
 else
 xday_End a1.1 (fun r4 =>
 (if (!r4) then
 K 5
 else
 (if (a1.2.1 != 1) then
 (if (a1.2.1 != (-1)) then
 K 6
 else
 (if decide (a1.1 ≤ a2) then
 K 4
 else
 K 0))
 else
 (if decide (a1.1 ≤ a2) then
 K 4
 else
 K 0)))))))
def Xleap_wrong : Tleap_wrong := Yleap_wrong Xday_End
def Jleap_wrong (X : Tleap_wrong) : Inst := mkI 55 pL48 .nil pL1 .nil X
def Ileap_wrong : Inst := Jleap_wrong Xleap_wrong
theorem Eleap_wrong (xday_End : Tday_End) : EqF Tryd.prog 36 gives Tryd.f55 [Jday_End xday_End] [] (Jleap_wrong (Yleap_wrong xday_End)) := fun x y K => by kernel_rfl
theorem Ileap_wrong_ok : InstOk Tryd.prog G.1 Ileap_wrong := iok (gives := gives) [] (okCons Iday_End_ok okNil) 36 follows Tryd.func55 (by kernel_rfl) (fun x => by kernel_rfl) (Eleap_wrong Xday_End)

/- epact/leap.Check -/
abbrev Tleap_Check : Type := Q49 → (Int → Int → Prop) → Prop
def Lleap_Check_0 (xleap_wrong : Tleap_wrong) (K : Int → Int → Prop) : (Q50 → Prop) → Q50 → Prop := fun k1 x2 =>
 (if decide (x2.1.2.2.2.2.2.2.1 < x2.1.2.2.2.2.2.1) then
 (if 0 ≤ x2.1.2.2.2.2.2.2.1 ∧ x2.1.2.2.2.2.2.2.1 < (↑(List.length x2.1.2.2.2.2.1) : Int) then
 (Eng.asInt IntKind.i64 (Eng.getC x2.1.2.2.2.2.1 (Int.toNat x2.1.2.2.2.2.2.2.1) (0 : Nat)) False fun n3 =>
 (Eng.asInt IntKind.i64 (Eng.getC x2.1.2.2.2.2.1 (Int.toNat x2.1.2.2.2.2.2.2.1) (1 : Nat)) False fun n4 =>
 (Eng.asBool (Eng.getC x2.1.2.2.2.2.1 (Int.toNat x2.1.2.2.2.2.2.2.1) (2 : Nat)) False fun b5 =>
 xleap_wrong x2.1.2.2.2.2.2.2.1 (n3, n4, b5, ()) x2.1.2.2.2.1 (fun r6 =>
 (if (r6 != 0) then
 K x2.1.2.2.2.2.2.2.1 r6
 else
 k1 (((), x2.1.2.1, x2.1.2.2.1, n3, x2.1.2.2.2.2.1, x2.1.2.2.2.2.2.1, w64 (x2.1.2.2.2.2.2.2.1 + 1), ()), x2.2))))))
 else
 False)
 else
 (if x2.2.1.2.1 then
 (lt (w64 (w64 (x2.1.2.2.2.1 + 1) * 86400)) fun v7 =>
 (if decide (x2.2.1.2.2.1 < if 63072000 > v7 then 63072000 else v7) then
 K (↑(List.length x2.2.1.1) : Int) 9
 else
 (if decide (x2.2.1.2.2.1 > 253402300799) then
 K (↑(List.length x2.2.1.1) : Int) 9
 else
 K (↑(List.length x2.2.1.1) : Int) 0)))
 else
 (if decide (x2.2.1.2.2.1 < 0) then
 K (↑(List.length x2.2.1.1) : Int) 9
 else
 (if decide (x2.2.1.2.2.1 > 0) then
 K (↑(List.length x2.2.1.1) : Int) 9
 else
 K (↑(List.length x2.2.1.1) : Int) 0))))
def Lleap_Check_0p : Lp := ⟨14366, [.trim 14366], pT51, pH52, 0⟩
def Yleap_Check (xleap_wrong : Tleap_wrong) (a0 : Q49) (K : Int → Int → Prop) : Prop :=
 lp (Lleap_Check_0 xleap_wrong K) (((), 0, 0, 729, a0.1, (↑(List.length a0.1) : Int), 0, ()), a0, ())
def Xleap_Check : Tleap_Check := Yleap_Check Xleap_wrong
def Jleap_Check (X : Tleap_Check) : Inst := mkI 30 pL53 .nil pL24 .nil X
def Ileap_Check : Inst := Jleap_Check Xleap_Check
theorem Eleap_Check (xleap_wrong : Tleap_wrong) : EqF Tryd.prog 51 gives Tryd.f30 [Jleap_wrong xleap_wrong] [Lleap_Check_0p] (Jleap_Check (Yleap_Check xleap_wrong)) := fun x y K => by kernel_rfl
theorem Ileap_Check_ok : InstOk Tryd.prog G.1 Ileap_Check := iok (gives := gives) [Lleap_Check_0p] (okCons Ileap_wrong_ok okNil) 51 follows Tryd.func30 (by kernel_rfl) (fun x => by kernel_rfl) (Eleap_Check Xleap_wrong)

/- epact/leap.Add -/
abbrev Tleap_Add : Type := Q49 → Q47 → (Q54 → Int → (List Eng.V) → Bool → Bool → Prop) → Prop
def Yleap_Add (xslices_Clone___api_Leap_api_Leap_ : Tslices_Clone___api_Leap_api_Leap_) (xleap_Check : Tleap_Check) (a0 : Q49) (a1 : Q47) (K : Q54 → Int → (List Eng.V) → Bool → Bool → Prop) : Prop :=
 (dup (
 xslices_Clone___api_Leap_api_Leap_ a0.1 (fun r2 r3 r4 =>
 (if r3 then
 (if Eng.roomOk (List.length r2 + List.length [Eng.V.agg [Eng.V.c (Value.int IntKind.i64 a1.1), Eng.V.c (Value.int IntKind.i64 a1.2.1), Eng.V.c (Value.bool a1.2.2.1)]]) (24 : Nat) then
 (lt (r2 ++ [Eng.V.agg [Eng.V.c (Value.int IntKind.i64 a1.1), Eng.V.c (Value.int IntKind.i64 a1.2.1), Eng.V.c (Value.bool a1.2.2.1)]]) fun v5 =>
 xleap_Check (v5, a0.2) (fun r6 r7 =>
 (if (r7 != 0) then
 (if 0 ≤ (↑(List.length a0.1) : Int) ∧ (↑(List.length a0.1) : Int) = (↑(List.length a0.1) : Int) ∧ (↑(List.length a0.1) : Int) ≤ (↑(List.length v5) : Int) then
 K ((), a0.2) r7 (List.take (Int.toNat (↑(List.length a0.1) : Int)) v5) r3 r4
 else
 False)
 else
 K ((), a0.2) 0 v5 r3 r4)))
 else
 False)
 else
 False))))
def Xleap_Add : Tleap_Add := Yleap_Add Xslices_Clone___api_Leap_api_Leap_ Xleap_Check
def Jleap_Add (X : Tleap_Add) : Inst := mkI 80 pL55 .nil pL56 pH45 X
def Ileap_Add : Inst := Jleap_Add Xleap_Add
theorem Eleap_Add (xslices_Clone___api_Leap_api_Leap_ : Tslices_Clone___api_Leap_api_Leap_) (xleap_Check : Tleap_Check) : EqF Tryd.prog 37 gives Tryd.f80 [Jslices_Clone___api_Leap_api_Leap_ xslices_Clone___api_Leap_api_Leap_, Jleap_Check xleap_Check] [] (Jleap_Add (Yleap_Add xslices_Clone___api_Leap_api_Leap_ xleap_Check)) := fun x y K => by kernel_rfl
theorem Ileap_Add_ok : InstOk Tryd.prog G.1 Ileap_Add := iok (gives := gives) [] (okCons Islices_Clone___api_Leap_api_Leap__ok (okCons Ileap_Check_ok okNil)) 37 follows Tryd.func80 (by kernel_rfl) (fun x => by kernel_rfl) (Eleap_Add Xslices_Clone___api_Leap_api_Leap_ Xleap_Check)

/- (*epact/zic.source).leap -/
abbrev Tzic_source_leap : Type := Q38 → Int → (List Eng.V) → Bool → Int → Int → Int → (Int → Bool → Int → Int → Int → (List Eng.V) → Bool → Bool → Prop) → Prop
def Yzic_source_leap (xleap_Add : Tleap_Add) (a0 : Q38) (a1 : Int) (a2 : (List Eng.V)) (a3 : Bool) (a4 : Int) (a5 : Int) (a6 : Int) (K : Int → Bool → Int → Int → Int → (List Eng.V) → Bool → Bool → Prop) : Prop :=
 (if (ByteArray.toList a0.2.2.2.2.2.1 == ByteArray.toList (ByteArray.mk #[(43 : UInt8)])) then
 (if (a0.2.2.2.2.1 == 86400) then
 xleap_Add (a2, a3, a4, ()) (a1, 1, a0.2.2.2.2.2.2) (fun r7 r8 r9 r10 r11 =>
 K r8 r7.2.1 r7.2.2.1 a5 a6 r9 r10 r11)
 else
 (if (ByteArray.toList a0.2.2.2.2.2.1 == ByteArray.toList (ByteArray.mk #[(45 : UInt8)])) then
 (if (a0.2.2.2.2.1 == 86399) then
 xleap_Add (a2, a3, a4, ()) (a1, (-1), a0.2.2.2.2.2.2) (fun r12 r13 r14 r15 r16 =>
 K r13 r12.2.1 r12.2.2.1 a5 a6 r14 r15 r16)
 else
 K 6 a3 a4 a5 a6 a2 false true)
 else
 K 6 a3 a4 a5 a6 a2 false true))
 else
 (if (ByteArray.toList a0.2.2.2.2.2.1 == ByteArray.toList (ByteArray.mk #[(45 : UInt8)])) then
 (if (a0.2.2.2.2.1 == 86399) then
 xleap_Add (a2, a3, a4, ()) (a1, (-1), a0.2.2.2.2.2.2) (fun r17 r18 r19 r20 r21 =>
 K r18 r17.2.1 r17.2.2.1 a5 a6 r19 r20 r21)
 else
 K 6 a3 a4 a5 a6 a2 false true)
 else
 K 6 a3 a4 a5 a6 a2 false true))
def Xzic_source_leap : Tzic_source_leap := Yzic_source_leap Xleap_Add
def Jzic_source_leap (X : Tzic_source_leap) : Inst := mkI 59 pL57 pH58 pL1 pH59 X
def Izic_source_leap : Inst := Jzic_source_leap Xzic_source_leap
theorem Ezic_source_leap (xleap_Add : Tleap_Add) : EqF Tryd.prog 43 gives Tryd.f59 [Jleap_Add xleap_Add] [] (Jzic_source_leap (Yzic_source_leap xleap_Add)) := fun x y K => by kernel_rfl
theorem Izic_source_leap_ok : InstOk Tryd.prog G.1 Izic_source_leap := iok (gives := gives) [] (okCons Ileap_Add_ok okNil) 43 follows Tryd.func59 (by kernel_rfl) (fun x => by kernel_rfl) (Ezic_source_leap Xleap_Add)

/- (*epact/zic.source).line -/
abbrev Tzic_source_line : Type := Int → (List Eng.V) → (List Eng.V) → Bool → Int → Int → Int → (Int → Bool → Int → Int → Int → (List Eng.V) → Bool → Bool → Prop) → Prop
def Yzic_source_line (xzic_read : Tzic_read) (xday_Number : Tday_Number) (xzic_source_leap : Tzic_source_leap) (a0 : Int) (a1 : (List Eng.V)) (a2 : (List Eng.V)) (a3 : Bool) (a4 : Int) (a5 : Int) (a6 : Int) (K : Int → Bool → Int → Int → Int → (List Eng.V) → Bool → Bool → Prop) : Prop :=
 xzic_read a1 (fun r7 r8 =>
 xday_Number r7.2.1 r7.2.2.1 r7.2.2.2.1 (fun r9 r10 =>
 (if (!r8) then
 (if (!r8) then
 K 2 a3 a4 a5 a6 a2 false true
 else
 (if (!r10) then
 K 9 a3 a4 a5 a6 a2 false true
 else
 (if (r7.1 == 0) then
 xzic_source_leap r7 r9 a2 a3 a4 a5 a6 (fun r11 r12 r13 r14 r15 r16 r17 r18 =>
 K r11 r12 r13 r14 r15 r16 r17 r18)
 else
 (if (r7.2.2.2.2.1 == 86400) then
 K 9 a3 a4 a5 a6 a2 false true
 else
 (lt (w64 (w64 (r9 * 86400) + r7.2.2.2.2.1)) fun v19 =>
 K 0 a3 a4 a0 v19 a2 false true)))))
 else
 (if (r7.1 == 1) then
 (if decide (a5 > 0) then
 K 2 a3 a4 a5 a6 a2 false true
 else
 (if (!r10) then
 K 9 a3 a4 a5 a6 a2 false true
 else
 (if (r7.1 == 0) then
 xzic_source_leap r7 r9 a2 a3 a4 a5 a6 (fun r20 r21 r22 r23 r24 r25 r26 r27 =>
 K r20 r21 r22 r23 r24 r25 r26 r27)
 else
 (if (r7.2.2.2.2.1 == 86400) then
 K 9 a3 a4 a5 a6 a2 false true
 else
 (lt (w64 (w64 (r9 * 86400) + r7.2.2.2.2.1)) fun v28 =>
 K 0 a3 a4 a0 v28 a2 false true)))))
 else
 (if (!r10) then
 K 9 a3 a4 a5 a6 a2 false true
 else
 (if (r7.1 == 0) then
 xzic_source_leap r7 r9 a2 a3 a4 a5 a6 (fun r29 r30 r31 r32 r33 r34 r35 r36 =>
 K r29 r30 r31 r32 r33 r34 r35 r36)
 else
 (if (r7.2.2.2.2.1 == 86400) then
 K 9 a3 a4 a5 a6 a2 false true
 else
 (lt (w64 (w64 (r9 * 86400) + r7.2.2.2.2.1)) fun v37 =>
 K 0 a3 a4 a0 v37 a2 false true))))))))
def Xzic_source_line : Tzic_source_line := Yzic_source_line Xzic_read Xday_Number Xzic_source_leap
def Jzic_source_line (X : Tzic_source_line) : Inst := mkI 32 pL60 pH58 pL1 pH59 X
def Izic_source_line : Inst := Jzic_source_line Xzic_source_line
theorem Ezic_source_line (xzic_read : Tzic_read) (xday_Number : Tday_Number) (xzic_source_leap : Tzic_source_leap) : EqF Tryd.prog 66 gives Tryd.f32 [Jzic_read xzic_read, Jday_Number xday_Number, Jzic_source_leap xzic_source_leap] [] (Jzic_source_line (Yzic_source_line xzic_read xday_Number xzic_source_leap)) := fun x y K => by kernel_rfl
theorem Izic_source_line_ok : InstOk Tryd.prog G.1 Izic_source_line := iok (gives := gives) [] (okCons Izic_read_ok (okCons Iday_Number_ok (okCons Izic_source_leap_ok okNil))) 66 follows Tryd.func32 (by kernel_rfl) (fun x => by kernel_rfl) (Ezic_source_line Xzic_read Xday_Number Xzic_source_leap)

/- epact/leap.Right -/
abbrev Tleap_Right : Type := Q49 → (Bool → Prop) → Prop
def Yleap_Right (xleap_Check : Tleap_Check) (a0 : Q49) (K : Bool → Prop) : Prop :=
 xleap_Check a0 (fun r1 r2 =>
 K (r2 == 0))
def Xleap_Right : Tleap_Right := Yleap_Right Xleap_Check
def Jleap_Right (X : Tleap_Right) : Inst := mkI 14 pL53 .nil pL8 .nil X
def Ileap_Right : Inst := Jleap_Right Xleap_Right
theorem Eleap_Right (xleap_Check : Tleap_Check) : EqF Tryd.prog 12 gives Tryd.f14 [Jleap_Check xleap_Check] [] (Jleap_Right (Yleap_Right xleap_Check)) := fun x y K => by kernel_rfl
theorem Ileap_Right_ok : InstOk Tryd.prog G.1 Ileap_Right := iok (gives := gives) [] (okCons Ileap_Check_ok okNil) 12 follows Tryd.func14 (by kernel_rfl) (fun x => by kernel_rfl) (Eleap_Right Xleap_Check)

/- epact/zic.Parse -/
abbrev Tzic_Parse : Type := ByteArray → (Q54 → Q61 → (List Eng.V) → Bool → Bool → Prop) → Prop
def Lzic_Parse_0 (xstrings_Cut : Tstrings_Cut) (xlines_Words : Tlines_Words) (xzic_source_line : Tzic_source_line) (xleap_Right : Tleap_Right) (K : Q54 → Q61 → (List Eng.V) → Bool → Bool → Prop) : (Q62 → Prop) → Q62 → Prop := fun k4 x5 =>
 (if decide (x5.1.2.2.2.2.2.1 < x5.1.2.2.2.2.1) then
 (if 0 ≤ x5.1.2.2.2.2.2.1 ∧ x5.1.2.2.2.2.2.1 < (↑(List.length x5.2.2.2.2.1.1) : Int) then
 (Eng.asStr (Eng.getC x5.2.2.2.2.1.1 (Int.toNat x5.1.2.2.2.2.2.1) (0 : Nat)) False fun t6 =>
 xstrings_Cut t6 (ByteArray.mk #[(35 : UInt8)]) (fun r7 r8 r9 =>
 xlines_Words r7 (fun r10 r11 r12 =>
 (if ((↑(List.length r10) : Int) == 0) then
 k4 (((), (), (), (), x5.1.2.2.2.2.1, w64 (x5.1.2.2.2.2.2.1 + 1), ()), x5.2)
 else
 xzic_source_line (w64 (x5.1.2.2.2.2.2.1 + 1)) r10 x5.2.2.2.1.1 x5.2.2.2.1.2.1 x5.2.2.2.1.2.2.1 x5.2.2.2.1.2.2.2.1 x5.2.2.2.1.2.2.2.2.1 (fun r13 r14 r15 r16 r17 r18 r19 r20 =>
 (if (r13 != 0) then
 K ((), false, 0, ()) (w64 (x5.1.2.2.2.2.2.1 + 1), r13, ()) [] true true
 else
 k4 (((), (), (), (), x5.1.2.2.2.2.1, w64 (x5.1.2.2.2.2.2.1 + 1), ()), x5.2.1, x5.2.2.1, (r18, r14, r15, r16, r17, ()), x5.2.2.2.2)))))))
 else
 False)
 else
 (if decide (x5.2.2.2.1.2.2.2.1 > 0) then
 xleap_Right (x5.2.2.2.1.1, true, x5.2.2.2.1.2.2.2.2) (fun r21 =>
 (if (!r21) then
 (
 (dup (
 K ((), false, 0, ()) (x5.2.2.2.1.2.2.2.1, 9, ()) [] true true))
 ∧
 K ((), false, 0, ()) (x5.2.2.2.1.2.2.2.1, 9, ()) [] true true)
 else
 K ((), true, x5.2.2.2.1.2.2.2.2) (0, 0, ()) x5.2.2.2.1.1 false true))
 else
 K ((), x5.2.2.2.1.2.1, x5.2.2.2.1.2.2.1, ()) (0, 0, ()) x5.2.2.2.1.1 false true))
def Lzic_Parse_0p : Lp := ⟨7196, [.trim 7196, .thin 560, .trim 7196], pT63, pH64, 0⟩
def Yzic_Parse (xlines_Split : Tlines_Split) (xstrings_Cut : Tstrings_Cut) (xlines_Words : Tlines_Words) (xzic_source_line : Tzic_source_line) (xleap_Right : Tleap_Right) (a0 : ByteArray) (K : Q54 → Q61 → (List Eng.V) → Bool → Bool → Prop) : Prop :=
 xlines_Split a0 (fun r1 r2 r3 =>
 lp (Lzic_Parse_0 xstrings_Cut xlines_Words xzic_source_line xleap_Right K) (((), (), (), (), (↑(List.length r1) : Int), 0, ()), ([], false, 0, ()), (0, 0, ()), ([], false, 0, 0, 0, ()), (r1, r2, r3), ()))
def Xzic_Parse : Tzic_Parse := Yzic_Parse Xlines_Split Xstrings_Cut Xlines_Words Xzic_source_line Xleap_Right
def Jzic_Parse (X : Tzic_Parse) : Inst := mkI 15 pL9 .nil pL65 pH45 X
def Izic_Parse : Inst := Jzic_Parse Xzic_Parse
theorem Ezic_Parse (xlines_Split : Tlines_Split) (xstrings_Cut : Tstrings_Cut) (xlines_Words : Tlines_Words) (xzic_source_line : Tzic_source_line) (xleap_Right : Tleap_Right) : EqF Tryd.prog 60 gives Tryd.f15 [Jlines_Split xlines_Split, Jstrings_Cut xstrings_Cut, Jlines_Words xlines_Words, Jzic_source_line xzic_source_line, Jleap_Right xleap_Right] [Lzic_Parse_0p] (Jzic_Parse (Yzic_Parse xlines_Split xstrings_Cut xlines_Words xzic_source_line xleap_Right)) := fun x y K => by kernel_rfl
theorem Izic_Parse_ok : InstOk Tryd.prog G.1 Izic_Parse := iok (gives := gives) [Lzic_Parse_0p] (okCons Ilines_Split_ok (okCons Istrings_Cut_ok (okCons Ilines_Words_ok (okCons Izic_source_line_ok (okCons Ileap_Right_ok okNil))))) 60 follows Tryd.func15 (by kernel_rfl) (fun x => by kernel_rfl) (Ezic_Parse Xlines_Split Xstrings_Cut Xlines_Words Xzic_source_line Xleap_Right)

/- epact/zic.write -/
abbrev Tzic_write : Type := ByteArray → Int → (List Eng.V) → (ByteArray → Prop) → Prop
def Yzic_write (xday_Date : Tday_Date) (xzic_names : Tzic_names) (xitoa : Titoa) (xjoin : Tjoin) (a0 : ByteArray) (a1 : Int) (a2 : (List Eng.V)) (K : ByteArray → Prop) : Prop :=
 xday_Date a1 (fun r3 r4 r5 r6 =>
 xzic_names (fun r7 =>
 (if 0 ≤ w64 (r4 - 1) ∧ w64 (r4 - 1) < 12 then
 (Eng.asStr ([Eng.V.c (Value.string r7.1), Eng.V.c (Value.string r7.2.1), Eng.V.c (Value.string r7.2.2.1), Eng.V.c (Value.string r7.2.2.2.1), Eng.V.c (Value.string r7.2.2.2.2.1), Eng.V.c (Value.string r7.2.2.2.2.2.1), Eng.V.c (Value.string r7.2.2.2.2.2.2.1), Eng.V.c (Value.string r7.2.2.2.2.2.2.2.1), Eng.V.c (Value.string r7.2.2.2.2.2.2.2.2.1), Eng.V.c (Value.string r7.2.2.2.2.2.2.2.2.2.1), Eng.V.c (Value.string r7.2.2.2.2.2.2.2.2.2.2.1), Eng.V.c (Value.string r7.2.2.2.2.2.2.2.2.2.2.2.1)][Int.toNat (w64 (r4 - 1)) * (1 : Nat)]?) False fun t8 =>
 (if (0 :Int) ≤ 3 ∧ 3 ≤ (↑(ByteArray.size t8) : Int) then
 (if (0 :Int) ≤ 0 ∧ 0 < (↑(List.length (Eng.bytesV (ByteArray.extract t8 (0 : Nat) (3 : Nat)))) : Int) then
 (Eng.asInt IntKind.u8 (Eng.getC (Eng.bytesV (ByteArray.extract t8 (0 : Nat) (3 : Nat))) (0 : Nat) (0 : Nat)) False fun n9 =>
 (if (0 :Int) ≤ 0 ∧ 0 < (↑(List.length (Eng.bytesV (ByteArray.extract t8 (0 : Nat) (3 : Nat)))) : Int) then
 (if (0 : Nat) < List.length (Eng.bytesV (ByteArray.extract t8 (0 : Nat) (3 : Nat))) then
 (lt (List.set (Eng.bytesV (ByteArray.extract t8 (0 : Nat) (3 : Nat))) (0 : Nat) (Eng.setE (List.getD (Eng.bytesV (ByteArray.extract t8 (0 : Nat) (3 : Nat))) (0 : Nat) Eng.V.bad) (0 : Nat) [Eng.V.c (Value.int IntKind.u8 (wu8 (n9 - 32)))])) fun v10 =>
 (
 xitoa r3 (fun r11 =>
 (
 (if Eng.allU8 v10 then
 xitoa r5 (fun r12 =>
 (if Eng.roomOk (List.length [Eng.V.c (Value.string a0), Eng.V.c (Value.string r11), Eng.V.c (Value.string (Eng.packB v10)), Eng.V.c (Value.string r12)] + List.length a2) (16 : Nat) then
 (lt ([Eng.V.c (Value.string a0), Eng.V.c (Value.string r11), Eng.V.c (Value.string (Eng.packB v10)), Eng.V.c (Value.string r12)] ++ a2) fun v13 =>
 xjoin v13 (ByteArray.mk #[(9 : UInt8)]) (fun r14 =>
 (if (↑(ByteArray.size r14 + (1 : Nat)) : Int) > 9223372036854775807 then
 False
 else
 K (r14 ++ ByteArray.mk #[(10 : UInt8)]))))
 else
 False))
 else
 False)
 ∧
 xitoa r5 (fun r15 =>
 (if Eng.allU8 v10 then
 (if Eng.roomOk (List.length [Eng.V.c (Value.string a0), Eng.V.c (Value.string r11), Eng.V.c (Value.string (Eng.packB v10)), Eng.V.c (Value.string r15)] + List.length a2) (16 : Nat) then
 (lt ([Eng.V.c (Value.string a0), Eng.V.c (Value.string r11), Eng.V.c (Value.string (Eng.packB v10)), Eng.V.c (Value.string r15)] ++ a2) fun v16 =>
 xjoin v16 (ByteArray.mk #[(9 : UInt8)]) (fun r17 =>
 (if (↑(ByteArray.size r17 + (1 : Nat)) : Int) > 9223372036854775807 then
 False
 else
 K (r17 ++ ByteArray.mk #[(10 : UInt8)]))))
 else
 False)
 else
 False))))
 ∧
 (if Eng.allU8 v10 then
 xitoa r3 (fun r18 =>
 xitoa r5 (fun r19 =>
 (if Eng.roomOk (List.length [Eng.V.c (Value.string a0), Eng.V.c (Value.string r18), Eng.V.c (Value.string (Eng.packB v10)), Eng.V.c (Value.string r19)] + List.length a2) (16 : Nat) then
 (lt ([Eng.V.c (Value.string a0), Eng.V.c (Value.string r18), Eng.V.c (Value.string (Eng.packB v10)), Eng.V.c (Value.string r19)] ++ a2) fun v20 =>
 xjoin v20 (ByteArray.mk #[(9 : UInt8)]) (fun r21 =>
 (if (↑(ByteArray.size r21 + (1 : Nat)) : Int) > 9223372036854775807 then
 False
 else
 K (r21 ++ ByteArray.mk #[(10 : UInt8)]))))
 else
 False)))
 else
 False)))
 else
 False)
 else
 False))
 else
 False)
 else
 False))
 else
 False)))
def Xzic_write : Tzic_write := Yzic_write Xday_Date Xzic_names Xitoa Xjoin
def Jzic_write (X : Tzic_write) : Inst := mkI 28 pL66 .nil pL9 .nil X
def Izic_write : Inst := Jzic_write Xzic_write
theorem Ezic_write (xday_Date : Tday_Date) (xzic_names : Tzic_names) (xitoa : Titoa) (xjoin : Tjoin) : EqF Tryd.prog 44 gives Tryd.f28 [Jday_Date xday_Date, Jzic_names xzic_names, Jitoa xitoa, Jjoin xjoin] [] (Jzic_write (Yzic_write xday_Date xzic_names xitoa xjoin)) := fun x y K => by kernel_rfl
theorem Izic_write_ok : InstOk Tryd.prog G.1 Izic_write := iok (gives := gives) [] (okCons Iday_Date_ok (okCons Izic_names_ok (okCons Iitoa_ok (okCons Ijoin_ok okNil)))) 44 follows Tryd.func28 (by kernel_rfl) (fun x => by kernel_rfl) (Ezic_write Xday_Date Xzic_names Xitoa Xjoin)

/- epact/stamp.Clock -/
abbrev Tstamp_Clock : Type := Int → (Int → Int → Int → Bool → Prop) → Prop
def Ystamp_Clock (a0 : Int) (K : Int → Int → Int → Bool → Prop) : Prop :=
 (if decide (a0 < 0) then
 K 0 0 0 false
 else
 (if decide (a0 > 86400) then
 K 0 0 0 false
 else
 (if (a0 == 86400) then
 K 23 59 60 true
 else
 K (w64 (Int.tdiv a0 3600)) (Int.tmod (w64 (Int.tdiv a0 60)) 60) (Int.tmod a0 60) true)))
def Xstamp_Clock : Tstamp_Clock := Ystamp_Clock
def Jstamp_Clock (X : Tstamp_Clock) : Inst := mkI 53 pL1 .nil pL46 .nil X
def Istamp_Clock : Inst := Jstamp_Clock Xstamp_Clock
theorem Estamp_Clock : EqF Tryd.prog 23 gives Tryd.f53 [] [] (Jstamp_Clock (Ystamp_Clock)) := fun x y K => by kernel_rfl
theorem Istamp_Clock_ok : InstOk Tryd.prog G.1 Istamp_Clock := iok (gives := gives) [] okNil 23 follows Tryd.func53 (by kernel_rfl) (fun x => by kernel_rfl) (Estamp_Clock)

/- epact/stamp.fill -/
abbrev Tstamp_fill : Type := ByteArray → (List Eng.V) → Bool → Bool → (ByteArray → Prop) → Prop
def Lstamp_fill_0 (K : ByteArray → Prop) (a1 : (List Eng.V)) (a2 : Bool) (a3 : Bool) : (Q67 → Prop) → Q67 → Prop := fun k4 x5 =>
 (if decide (x5.1.2.2.2.2.1 ≥ 0) then
 (if 0 ≤ x5.1.2.2.2.2.1 ∧ x5.1.2.2.2.2.1 < (↑(List.length x5.2.2.1) : Int) then
 (Eng.asInt IntKind.u8 (Eng.getC x5.2.2.1 (Int.toNat x5.1.2.2.2.2.1) (0 : Nat)) False fun n6 =>
 (if (n6 != 48) then
 k4 (((), x5.1.2.1, (), w64 (x5.1.2.2.2.1 - 1), w64 (x5.1.2.2.2.2.1 - 1), ()), x5.2)
 else
 (if 0 ≤ x5.1.2.2.2.2.1 ∧ x5.1.2.2.2.2.1 < (↑(List.length x5.2.2.1) : Int) then
 (Eng.asInt IntKind.u8 (Eng.getC x5.2.2.1 (Int.toNat x5.1.2.2.2.2.1) (0 : Nat)) False fun n7 =>
 (if 0 ≤ x5.1.2.2.2.1 ∧ x5.1.2.2.2.1 < (↑(List.length x5.2.1.1) : Int) then
 (Eng.asInt IntKind.i64 (Eng.getC x5.2.1.1 (Int.toNat x5.1.2.2.2.1) (0 : Nat)) False fun n8 =>
 (lt (wu8 (n7 + wu8 (Int.tmod n8 10))) fun v9 =>
 (if 0 ≤ x5.1.2.2.2.2.1 ∧ x5.1.2.2.2.2.1 < (↑(List.length x5.2.2.1) : Int) then
 (if Int.toNat x5.1.2.2.2.2.1 < List.length x5.2.2.1 then
 (if 0 ≤ x5.1.2.2.2.1 ∧ x5.1.2.2.2.1 < (↑(List.length x5.2.1.1) : Int) then
 (Eng.asInt IntKind.i64 (Eng.getC x5.2.1.1 (Int.toNat x5.1.2.2.2.1) (0 : Nat)) False fun n10 =>
 (if 0 ≤ x5.1.2.2.2.1 ∧ x5.1.2.2.2.1 < (↑(List.length x5.2.1.1) : Int) then
 (if x5.2.1.2.2 = false then
 (if Int.toNat x5.1.2.2.2.1 < List.length x5.2.1.1 then
 (lt (List.set x5.2.1.1 (Int.toNat x5.1.2.2.2.1) (Eng.setE (List.getD x5.2.1.1 (Int.toNat x5.1.2.2.2.1) Eng.V.bad) (0 : Nat) [Eng.V.c (Value.int IntKind.i64 (w64 (Int.tdiv n10 10)))])) fun v11 =>
 k4 (((), x5.1.2.1, (), x5.1.2.2.2.1, w64 (x5.1.2.2.2.2.1 - 1), ()), (v11, x5.2.1.2), List.set x5.2.2.1 (Int.toNat x5.1.2.2.2.2.1) (Eng.setE (List.getD x5.2.2.1 (Int.toNat x5.1.2.2.2.2.1) Eng.V.bad) (0 : Nat) [Eng.V.c (Value.int IntKind.u8 v9)]), ()))
 else
 False)
 else
 False)
 else
 False))
 else
 False)
 else
 False)
 else
 False)))
 else
 False))
 else
 False)))
 else
 False)
 else
 (if Eng.allU8 x5.2.2.1 then
 K (Eng.packB x5.2.2.1)
 else
 False))
def Lstamp_fill_0p : Lp := ⟨242, [.trim 242], pT68, pH69, 0⟩
def Ystamp_fill (a0 : ByteArray) (a1 : (List Eng.V)) (a2 : Bool) (a3 : Bool) (K : ByteArray → Prop) : Prop :=
 lp (Lstamp_fill_0 K a1 a2 a3) (((), ByteArray.mk #[], (), w64 ((↑(List.length a1) : Int) - 1), w64 ((↑(List.length (Eng.bytesV a0)) : Int) - 1), ()), (a1, a2, a3), Eng.bytesV a0, ())
def Xstamp_fill : Tstamp_fill := Ystamp_fill
def Jstamp_fill (X : Tstamp_fill) : Inst := mkI 54 pL70 pH7 pL9 .nil X
def Istamp_fill : Inst := Jstamp_fill Xstamp_fill
theorem Estamp_fill : EqF Tryd.prog 47 gives Tryd.f54 [] [Lstamp_fill_0p] (Jstamp_fill (Ystamp_fill)) := fun x y K => by kernel_rfl
theorem Istamp_fill_ok : InstOk Tryd.prog G.1 Istamp_fill := iok (gives := gives) [Lstamp_fill_0p] okNil 47 follows Tryd.func54 (by kernel_rfl) (fun x => by kernel_rfl) (Estamp_fill)

/- epact/stamp.Text -/
abbrev Tstamp_Text : Type := Int → Int → (ByteArray → Bool → Prop) → Prop
def Ystamp_Text (xday_Date : Tday_Date) (xstamp_Clock : Tstamp_Clock) (xstamp_fill : Tstamp_fill) (a0 : Int) (a1 : Int) (K : ByteArray → Bool → Prop) : Prop :=
 xday_Date a0 (fun r2 r3 r4 r5 =>
 xstamp_Clock a1 (fun r6 r7 r8 r9 =>
 (if (!r5) then
 K (ByteArray.mk #[]) false
 else
 (if (!r9) then
 K (ByteArray.mk #[]) false
 else
 xstamp_fill (ByteArray.extract (ByteArray.mk #[(48 : UInt8), (48 : UInt8), (48 : UInt8), (48 : UInt8), (45 : UInt8), (48 : UInt8), (48 : UInt8), (45 : UInt8), (48 : UInt8), (48 : UInt8), (84 : UInt8), (48 : UInt8), (48 : UInt8), (58 : UInt8), (48 : UInt8), (48 : UInt8), (58 : UInt8), (48 : UInt8), (48 : UInt8), (90 : UInt8)]) (0 : Nat) (19 : Nat)) ([Eng.V.c (Value.int IntKind.i64 r2), Eng.V.c (Value.int IntKind.i64 r3), Eng.V.c (Value.int IntKind.i64 r4), Eng.V.c (Value.int IntKind.i64 r6), Eng.V.c (Value.int IntKind.i64 r7), Eng.V.c (Value.int IntKind.i64 r8)]) true false (fun r10 =>
 (if (↑(ByteArray.size r10 + (1 : Nat)) : Int) > 9223372036854775807 then
 False
 else
 (lt (r10 ++ ByteArray.extract (ByteArray.mk #[(48 : UInt8), (48 : UInt8), (48 : UInt8), (48 : UInt8), (45 : UInt8), (48 : UInt8), (48 : UInt8), (45 : UInt8), (48 : UInt8), (48 : UInt8), (84 : UInt8), (48 : UInt8), (48 : UInt8), (58 : UInt8), (48 : UInt8), (48 : UInt8), (58 : UInt8), (48 : UInt8), (48 : UInt8), (90 : UInt8)]) (19 : Nat) (20 : Nat)) fun v11 =>
 K v11 true)))))))
def Xstamp_Text : Tstamp_Text := Ystamp_Text Xday_Date Xstamp_Clock Xstamp_fill
def Jstamp_Text (X : Tstamp_Text) : Inst := mkI 29 pL24 .nil pL71 .nil X
def Istamp_Text : Inst := Jstamp_Text Xstamp_Text
theorem Estamp_Text (xday_Date : Tday_Date) (xstamp_Clock : Tstamp_Clock) (xstamp_fill : Tstamp_fill) : EqF Tryd.prog 45 gives Tryd.f29 [Jday_Date xday_Date, Jstamp_Clock xstamp_Clock, Jstamp_fill xstamp_fill] [] (Jstamp_Text (Ystamp_Text xday_Date xstamp_Clock xstamp_fill)) := fun x y K => by kernel_rfl
theorem Istamp_Text_ok : InstOk Tryd.prog G.1 Istamp_Text := iok (gives := gives) [] (okCons Iday_Date_ok (okCons Istamp_Clock_ok (okCons Istamp_fill_ok okNil))) 45 follows Tryd.func29 (by kernel_rfl) (fun x => by kernel_rfl) (Estamp_Text Xday_Date Xstamp_Clock Xstamp_fill)

/- epact/zic.Text -/
abbrev Tzic_Text : Type := Q49 → (ByteArray → Bool → Prop) → Prop
def Lzic_Text_0 (xzic_write : Tzic_write) (xstamp_Text : Tstamp_Text) (K : ByteArray → Bool → Prop) : (Q72 → Prop) → Q72 → Prop := fun k2 x3 =>
 (if decide (x3.1.2.2.2.2.2.1 < x3.1.2.2.2.2.1) then
 (if 0 ≤ x3.1.2.2.2.2.2.1 ∧ x3.1.2.2.2.2.2.1 < (↑(List.length x3.1.2.2.2.1) : Int) then
 (Eng.asInt IntKind.i64 (Eng.getC x3.1.2.2.2.1 (Int.toNat x3.1.2.2.2.2.2.1) (0 : Nat)) False fun n4 =>
 (Eng.asInt IntKind.i64 (Eng.getC x3.1.2.2.2.1 (Int.toNat x3.1.2.2.2.2.2.1) (1 : Nat)) False fun n5 =>
 (Eng.asBool (Eng.getC x3.1.2.2.2.1 (Int.toNat x3.1.2.2.2.2.2.1) (2 : Nat)) False fun b6 =>
 (if decide (n5 < 0) then
 (if b6 then
 xzic_write (ByteArray.mk #[(76 : UInt8), (101 : UInt8), (97 : UInt8), (112 : UInt8)]) n4 ([Eng.V.c (Value.string (ByteArray.mk #[(50 : UInt8), (51 : UInt8), (58 : UInt8), (53 : UInt8), (57 : UInt8), (58 : UInt8), (53 : UInt8), (57 : UInt8)])), Eng.V.c (Value.string (ByteArray.mk #[(45 : UInt8)])), Eng.V.c (Value.string (ByteArray.mk #[(82 : UInt8)]))]) (fun r7 =>
 (if (↑(ByteArray.size x3.1.2.1 + ByteArray.size r7) : Int) > 9223372036854775807 then
 False
 else
 k2 (((), x3.1.2.1 ++ r7, x3.1.2.2.1, x3.1.2.2.2.1, x3.1.2.2.2.2.1, w64 (x3.1.2.2.2.2.2.1 + 1), ()), x3.2)))
 else
 xzic_write (ByteArray.mk #[(76 : UInt8), (101 : UInt8), (97 : UInt8), (112 : UInt8)]) n4 ([Eng.V.c (Value.string (ByteArray.mk #[(50 : UInt8), (51 : UInt8), (58 : UInt8), (53 : UInt8), (57 : UInt8), (58 : UInt8), (53 : UInt8), (57 : UInt8)])), Eng.V.c (Value.string (ByteArray.mk #[(45 : UInt8)])), Eng.V.c (Value.string (ByteArray.mk #[(83 : UInt8)]))]) (fun r8 =>
 (if (↑(ByteArray.size x3.1.2.1 + ByteArray.size r8) : Int) > 9223372036854775807 then
 False
 else
 k2 (((), x3.1.2.1 ++ r8, x3.1.2.2.1, x3.1.2.2.2.1, x3.1.2.2.2.2.1, w64 (x3.1.2.2.2.2.2.1 + 1), ()), x3.2))))
 else
 (if b6 then
 xzic_write (ByteArray.mk #[(76 : UInt8), (101 : UInt8), (97 : UInt8), (112 : UInt8)]) n4 ([Eng.V.c (Value.string (ByteArray.mk #[(50 : UInt8), (51 : UInt8), (58 : UInt8), (53 : UInt8), (57 : UInt8), (58 : UInt8), (54 : UInt8), (48 : UInt8)])), Eng.V.c (Value.string (ByteArray.mk #[(43 : UInt8)])), Eng.V.c (Value.string (ByteArray.mk #[(82 : UInt8)]))]) (fun r9 =>
 (if (↑(ByteArray.size x3.1.2.1 + ByteArray.size r9) : Int) > 9223372036854775807 then
 False
 else
 k2 (((), x3.1.2.1 ++ r9, x3.1.2.2.1, x3.1.2.2.2.1, x3.1.2.2.2.2.1, w64 (x3.1.2.2.2.2.2.1 + 1), ()), x3.2)))
 else
 xzic_write (ByteArray.mk #[(76 : UInt8), (101 : UInt8), (97 : UInt8), (112 : UInt8)]) n4 ([Eng.V.c (Value.string (ByteArray.mk #[(50 : UInt8), (51 : UInt8), (58 : UInt8), (53 : UInt8), (57 : UInt8), (58 : UInt8), (54 : UInt8), (48 : UInt8)])), Eng.V.c (Value.string (ByteArray.mk #[(43 : UInt8)])), Eng.V.c (Value.string (ByteArray.mk #[(83 : UInt8)]))]) (fun r10 =>
 (if (↑(ByteArray.size x3.1.2.1 + ByteArray.size r10) : Int) > 9223372036854775807 then
 False
 else
 k2 (((), x3.1.2.1 ++ r10, x3.1.2.2.1, x3.1.2.2.2.1, x3.1.2.2.2.2.1, w64 (x3.1.2.2.2.2.2.1 + 1), ()), x3.2))))))))
 else
 False)
 else
 (if x3.2.1.2.1 then
 xstamp_Text (w64 (Int.tdiv x3.2.1.2.2.1 86400)) (Int.tmod x3.2.1.2.2.1 86400) (fun r11 r12 =>
 (if (0 :Int) ≤ 19 ∧ 19 ≤ (↑(ByteArray.size r11) : Int) then
 xzic_write (ByteArray.mk #[(69 : UInt8), (120 : UInt8), (112 : UInt8), (105 : UInt8), (114 : UInt8), (101 : UInt8), (115 : UInt8)]) (w64 (Int.tdiv x3.2.1.2.2.1 86400)) ([Eng.V.c (Value.string (ByteArray.extract r11 (11 : Nat) (19 : Nat)))]) (fun r13 =>
 (if (↑(ByteArray.size x3.1.2.1 + ByteArray.size r13) : Int) > 9223372036854775807 then
 False
 else
 K (x3.1.2.1 ++ r13) true))
 else
 False))
 else
 K x3.1.2.1 true))
def Lzic_Text_0p : Lp := ⟨229390, [.trim 229390], pT73, pH52, 0⟩
def Yzic_Text (xleap_Right : Tleap_Right) (xzic_write : Tzic_write) (xstamp_Text : Tstamp_Text) (a0 : Q49) (K : ByteArray → Bool → Prop) : Prop :=
 xleap_Right a0 (fun r1 =>
 (if (!r1) then
 K (ByteArray.mk #[]) false
 else
 lp (Lzic_Text_0 xzic_write xstamp_Text K) (((), ByteArray.mk #[], false, a0.1, (↑(List.length a0.1) : Int), 0, ()), a0, ())))
def Xzic_Text : Tzic_Text := Yzic_Text Xleap_Right Xzic_write Xstamp_Text
def Jzic_Text (X : Tzic_Text) : Inst := mkI 13 pL53 .nil pL71 .nil X
def Izic_Text : Inst := Jzic_Text Xzic_Text
theorem Ezic_Text (xleap_Right : Tleap_Right) (xzic_write : Tzic_write) (xstamp_Text : Tstamp_Text) : EqF Tryd.prog 58 gives Tryd.f13 [Jleap_Right xleap_Right, Jzic_write xzic_write, Jstamp_Text xstamp_Text] [Lzic_Text_0p] (Jzic_Text (Yzic_Text xleap_Right xzic_write xstamp_Text)) := fun x y K => by kernel_rfl
theorem Izic_Text_ok : InstOk Tryd.prog G.1 Izic_Text := iok (gives := gives) [Lzic_Text_0p] (okCons Ileap_Right_ok (okCons Izic_write_ok (okCons Istamp_Text_ok okNil))) 58 follows Tryd.func13 (by kernel_rfl) (fun x => by kernel_rfl) (Ezic_Text Xleap_Right Xzic_write Xstamp_Text)

/- epact/epactref09.Same -/
abbrev Tepactref09_Same : Type := Q49 → Q49 → (Bool → Prop) → Prop
def Lepactref09_Same_0 (K : Bool → Prop) : (Q74 → Prop) → Q74 → Prop := fun k2 x3 =>
 (if decide (x3.1.2.2.2.1 < (↑(List.length x3.2.1.1) : Int)) then
 (if 0 ≤ x3.1.2.2.2.1 ∧ x3.1.2.2.2.1 < (↑(List.length x3.2.1.1) : Int) then
 (Eng.asInt IntKind.i64 (Eng.getC x3.2.1.1 (Int.toNat x3.1.2.2.2.1) (0 : Nat)) False fun n4 =>
 (Eng.asInt IntKind.i64 (Eng.getC x3.2.1.1 (Int.toNat x3.1.2.2.2.1) (1 : Nat)) False fun n5 =>
 (Eng.asBool (Eng.getC x3.2.1.1 (Int.toNat x3.1.2.2.2.1) (2 : Nat)) False fun b6 =>
 (if 0 ≤ x3.1.2.2.2.1 ∧ x3.1.2.2.2.1 < (↑(List.length x3.2.2.1.1) : Int) then
 (Eng.asInt IntKind.i64 (Eng.getC x3.2.2.1.1 (Int.toNat x3.1.2.2.2.1) (0 : Nat)) False fun n7 =>
 (Eng.asInt IntKind.i64 (Eng.getC x3.2.2.1.1 (Int.toNat x3.1.2.2.2.1) (1 : Nat)) False fun n8 =>
 (Eng.asBool (Eng.getC x3.2.2.1.1 (Int.toNat x3.1.2.2.2.1) (2 : Nat)) False fun b9 =>
 (lt (!(n4 == n7 && (n5 == n8 && (b6 == b9 && true)))) fun v10 =>
 (if v10 then
 K false
 else
 k2 (((), (), x3.1.2.2.1, w64 (x3.1.2.2.2.1 + 1), ()), x3.2))))))
 else
 False))))
 else
 False)
 else
 K true)
def Lepactref09_Same_0p : Lp := ⟨60, [.trim 60], pT75, pH76, 0⟩
def Yepactref09_Same (a0 : Q49) (a1 : Q49) (K : Bool → Prop) : Prop :=
 (if ((↑(List.length a0.1) : Int) != (↑(List.length a1.1) : Int)) then
 K false
 else
 (if (!a0.2.1 == a1.2.1) then
 K false
 else
 (if (a0.2.2.1 != a1.2.2.1) then
 K false
 else
 lp (Lepactref09_Same_0 K) (((), (), false, 0, ()), a0, a1, ()))))
def Xepactref09_Same : Tepactref09_Same := Yepactref09_Same
def Jepactref09_Same (X : Tepactref09_Same) : Inst := mkI 16 pL77 .nil pL8 .nil X
def Iepactref09_Same : Inst := Jepactref09_Same Xepactref09_Same
theorem Eepactref09_Same : EqF Tryd.prog 45 gives Tryd.f16 [] [Lepactref09_Same_0p] (Jepactref09_Same (Yepactref09_Same)) := fun x y K => by kernel_rfl
theorem Iepactref09_Same_ok : InstOk Tryd.prog G.1 Iepactref09_Same := iok (gives := gives) [Lepactref09_Same_0p] okNil 45 follows Tryd.func16 (by kernel_rfl) (fun x => by kernel_rfl) (Eepactref09_Same)

/- epact/epactlaw11.small -/
abbrev Tepactlaw11_small : Type := (Bool → Prop) → Prop
def Yepactlaw11_small (xzic_Parse : Tzic_Parse) (xzic_Text : Tzic_Text) (xzic_Month : Tzic_Month) (xzic_Clock : Tzic_Clock) (xepactref09_Same : Tepactref09_Same) (K : Bool → Prop) : Prop :=
 xzic_Parse (ByteArray.mk (List.toArray (List.append [(35 : UInt8), (32 : UInt8), (120 : UInt8), (10 : UInt8), (76 : UInt8), (101 : UInt8), (97 : UInt8), (112 : UInt8), (9 : UInt8), (49 : UInt8), (57 : UInt8), (55 : UInt8), (50 : UInt8), (9 : UInt8), (74 : UInt8), (117 : UInt8), (110 : UInt8), (9 : UInt8), (51 : UInt8), (48 : UInt8), (9 : UInt8), (50 : UInt8), (51 : UInt8), (58 : UInt8), (53 : UInt8), (57 : UInt8), (58 : UInt8), (54 : UInt8), (48 : UInt8), (9 : UInt8), (43 : UInt8), (9 : UInt8), (83 : UInt8), (32 : UInt8), (35 : UInt8), (32 : UInt8), (121 : UInt8), (10 : UInt8), (10 : UInt8), (108 : UInt8), (101 : UInt8), (97 : UInt8), (112 : UInt8), (32 : UInt8), (49 : UInt8), (57 : UInt8), (55 : UInt8), (50 : UInt8), (32 : UInt8), (68 : UInt8), (69 : UInt8), (67 : UInt8)] [(69 : UInt8), (77 : UInt8), (66 : UInt8), (69 : UInt8), (82 : UInt8), (32 : UInt8), (51 : UInt8), (49 : UInt8), (32 : UInt8), (50 : UInt8), (51 : UInt8), (58 : UInt8), (53 : UInt8), (57 : UInt8), (58 : UInt8), (53 : UInt8), (57 : UInt8), (32 : UInt8), (45 : UInt8), (32 : UInt8), (114 : UInt8), (111 : UInt8), (108 : UInt8), (108 : UInt8), (10 : UInt8), (69 : UInt8), (120 : UInt8), (112 : UInt8), (105 : UInt8), (114 : UInt8), (101 : UInt8), (115 : UInt8), (32 : UInt8), (49 : UInt8), (57 : UInt8), (55 : UInt8), (52 : UInt8), (32 : UInt8), (74 : UInt8), (97 : UInt8), (110 : UInt8), (32 : UInt8), (49 : UInt8), (32 : UInt8), (48 : UInt8), (58 : UInt8), (48 : UInt8), (48 : UInt8), (58 : UInt8), (48 : UInt8), (53 : UInt8), (10 : UInt8)]))) (fun r0 r1 r2 r3 r4 =>
 xzic_Parse (ByteArray.mk #[(76 : UInt8), (101 : UInt8), (97 : UInt8), (112 : UInt8), (32 : UInt8), (49 : UInt8), (57 : UInt8), (55 : UInt8), (50 : UInt8), (32 : UInt8), (74 : UInt8), (117 : UInt8), (110 : UInt8), (32 : UInt8), (51 : UInt8), (48 : UInt8), (32 : UInt8), (50 : UInt8), (51 : UInt8), (58 : UInt8), (53 : UInt8), (57 : UInt8), (58 : UInt8), (53 : UInt8), (57 : UInt8), (32 : UInt8), (43 : UInt8), (32 : UInt8), (83 : UInt8)]) (fun r5 r6 r7 r8 r9 =>
 xzic_Parse (ByteArray.mk #[(10 : UInt8), (76 : UInt8), (101 : UInt8), (97 : UInt8), (112 : UInt8), (32 : UInt8), (49 : UInt8), (57 : UInt8), (55 : UInt8), (50 : UInt8), (32 : UInt8), (74 : UInt8), (117 : UInt8), (110 : UInt8), (32 : UInt8), (50 : UInt8), (57 : UInt8), (32 : UInt8), (50 : UInt8), (51 : UInt8), (58 : UInt8), (53 : UInt8), (57 : UInt8), (58 : UInt8), (54 : UInt8), (48 : UInt8), (32 : UInt8), (43 : UInt8), (32 : UInt8), (83 : UInt8)]) (fun r10 r11 r12 r13 r14 =>
 xzic_Parse (ByteArray.mk #[(76 : UInt8), (101 : UInt8), (97 : UInt8), (112 : UInt8), (32 : UInt8), (49 : UInt8), (57 : UInt8), (55 : UInt8), (50 : UInt8), (32 : UInt8), (74 : UInt8), (117 : UInt8), (110 : UInt8), (32 : UInt8), (51 : UInt8), (49 : UInt8), (32 : UInt8), (50 : UInt8), (51 : UInt8), (58 : UInt8), (53 : UInt8), (57 : UInt8), (58 : UInt8), (54 : UInt8), (48 : UInt8), (32 : UInt8), (43 : UInt8), (32 : UInt8), (83 : UInt8)]) (fun r15 r16 r17 r18 r19 =>
 xzic_Parse (ByteArray.mk #[(76 : UInt8), (101 : UInt8), (97 : UInt8), (112 : UInt8), (32 : UInt8), (49 : UInt8), (57 : UInt8), (55 : UInt8), (50 : UInt8), (32 : UInt8), (74 : UInt8), (117 : UInt8), (32 : UInt8), (51 : UInt8), (48 : UInt8), (32 : UInt8), (50 : UInt8), (51 : UInt8), (58 : UInt8), (53 : UInt8), (57 : UInt8), (58 : UInt8), (54 : UInt8), (48 : UInt8), (32 : UInt8), (43 : UInt8), (32 : UInt8), (83 : UInt8)]) (fun r20 r21 r22 r23 r24 =>
 xzic_Parse (ByteArray.mk #[(69 : UInt8), (120 : UInt8), (112 : UInt8), (105 : UInt8), (114 : UInt8), (101 : UInt8), (115 : UInt8), (32 : UInt8), (49 : UInt8), (57 : UInt8), (55 : UInt8), (51 : UInt8), (32 : UInt8), (74 : UInt8), (97 : UInt8), (110 : UInt8), (32 : UInt8), (49 : UInt8), (32 : UInt8), (48 : UInt8), (58 : UInt8), (48 : UInt8), (58 : UInt8), (48 : UInt8), (10 : UInt8), (69 : UInt8), (120 : UInt8), (112 : UInt8), (105 : UInt8), (114 : UInt8), (101 : UInt8), (115 : UInt8), (32 : UInt8), (49 : UInt8), (57 : UInt8), (55 : UInt8), (51 : UInt8), (32 : UInt8), (74 : UInt8), (97 : UInt8), (110 : UInt8), (32 : UInt8), (49 : UInt8), (32 : UInt8), (48 : UInt8), (58 : UInt8), (48 : UInt8), (58 : UInt8), (48 : UInt8)]) (fun r25 r26 r27 r28 r29 =>
 xzic_Text ([Eng.V.agg [Eng.V.c (Value.int IntKind.i64 911), Eng.V.c (Value.int IntKind.i64 1), Eng.V.c (Value.bool false)], Eng.V.agg [Eng.V.c (Value.int IntKind.i64 1095), Eng.V.c (Value.int IntKind.i64 (-1)), Eng.V.c (Value.bool true)]], true, 126230405, ()) (fun r30 r31 =>
 xzic_Parse r30 (fun r32 r33 r34 r35 r36 =>
 xzic_Month (ByteArray.mk #[(115 : UInt8), (69 : UInt8), (112 : UInt8), (116 : UInt8)]) (fun r37 r38 =>
 xzic_Month (ByteArray.mk #[(109 : UInt8), (97 : UInt8)]) (fun r39 r40 =>
 xzic_Clock (ByteArray.mk #[(49 : UInt8), (58 : UInt8), (50 : UInt8), (58 : UInt8), (51 : UInt8)]) (fun r41 r42 =>
 xzic_Clock (ByteArray.mk #[(49 : UInt8), (58 : UInt8), (50 : UInt8)]) (fun r43 r44 =>
 xzic_Clock (ByteArray.mk #[(48 : UInt8), (48 : UInt8), (49 : UInt8), (58 : UInt8), (50 : UInt8), (58 : UInt8), (51 : UInt8)]) (fun r45 r46 =>
 xepactref09_Same (r2, r0.2) ([Eng.V.agg [Eng.V.c (Value.int IntKind.i64 911), Eng.V.c (Value.int IntKind.i64 1), Eng.V.c (Value.bool false)], Eng.V.agg [Eng.V.c (Value.int IntKind.i64 1095), Eng.V.c (Value.int IntKind.i64 (-1)), Eng.V.c (Value.bool true)]], true, 126230405, ()) (fun r47 =>
 (if r47 then
 (if (r1.1 == 0 && (r1.2.1 == 0 && true)) then
 (if (r6.1 == 1 && (r6.2.1 == 6 && true)) then
 (if (r11.1 == 2 && (r11.2.1 == 5 && true)) then
 (if (r16.1 == 1 && (r16.2.1 == 9 && true)) then
 (if (r21.1 == 1 && (r21.2.1 == 2 && true)) then
 (if (r26.1 == 2 && (r26.2.1 == 2 && true)) then
 (if r31 then
 xepactref09_Same (r34, r32.2) ([Eng.V.agg [Eng.V.c (Value.int IntKind.i64 911), Eng.V.c (Value.int IntKind.i64 1), Eng.V.c (Value.bool false)], Eng.V.agg [Eng.V.c (Value.int IntKind.i64 1095), Eng.V.c (Value.int IntKind.i64 (-1)), Eng.V.c (Value.bool true)]], true, 126230405, ()) (fun r48 =>
 (if r48 then
 (if (r33.1 == 0 && (r33.2.1 == 0 && true)) then
 (lt (ByteArray.toList r30 == ByteArray.toList (ByteArray.mk (List.toArray (List.append [(76 : UInt8), (101 : UInt8), (97 : UInt8), (112 : UInt8), (9 : UInt8), (49 : UInt8), (57 : UInt8), (55 : UInt8), (50 : UInt8), (9 : UInt8), (74 : UInt8), (117 : UInt8), (110 : UInt8), (9 : UInt8), (51 : UInt8), (48 : UInt8), (9 : UInt8), (50 : UInt8), (51 : UInt8), (58 : UInt8), (53 : UInt8), (57 : UInt8), (58 : UInt8), (54 : UInt8), (48 : UInt8), (9 : UInt8), (43 : UInt8), (9 : UInt8), (83 : UInt8), (10 : UInt8), (76 : UInt8), (101 : UInt8), (97 : UInt8), (112 : UInt8), (9 : UInt8), (49 : UInt8), (57 : UInt8), (55 : UInt8), (50 : UInt8), (9 : UInt8), (68 : UInt8), (101 : UInt8), (99 : UInt8), (9 : UInt8)] [(51 : UInt8), (49 : UInt8), (9 : UInt8), (50 : UInt8), (51 : UInt8), (58 : UInt8), (53 : UInt8), (57 : UInt8), (58 : UInt8), (53 : UInt8), (57 : UInt8), (9 : UInt8), (45 : UInt8), (9 : UInt8), (82 : UInt8), (10 : UInt8), (69 : UInt8), (120 : UInt8), (112 : UInt8), (105 : UInt8), (114 : UInt8), (101 : UInt8), (115 : UInt8), (9 : UInt8), (49 : UInt8), (57 : UInt8), (55 : UInt8), (52 : UInt8), (9 : UInt8), (74 : UInt8), (97 : UInt8), (110 : UInt8), (9 : UInt8), (49 : UInt8), (9 : UInt8), (48 : UInt8), (48 : UInt8), (58 : UInt8), (48 : UInt8), (48 : UInt8), (58 : UInt8), (48 : UInt8), (53 : UInt8), (10 : UInt8)])))) fun v49 =>
 (if v49 then
 (if (r37 == 9) then
 (if r38 then
 (if (!r40) then
 (if (r41 == 3723) then
 (if r42 then
 (if (!r44) then
 K !r46
 else
 K false)
 else
 K false)
 else
 K false)
 else
 K false)
 else
 K false)
 else
 K false)
 else
 K false))
 else
 K false)
 else
 K false))
 else
 K false)
 else
 K false)
 else
 K false)
 else
 K false)
 else
 K false)
 else
 K false)
 else
 K false)
 else
 K false)))))))))))))))
def Xepactlaw11_small : Tepactlaw11_small := Yepactlaw11_small Xzic_Parse Xzic_Text Xzic_Month Xzic_Clock Xepactref09_Same
def Jepactlaw11_small (X : Tepactlaw11_small) : Inst := mkI 11 .nil .nil pL8 .nil X
def Iepactlaw11_small : Inst := Jepactlaw11_small Xepactlaw11_small
theorem Eepactlaw11_small (xzic_Parse : Tzic_Parse) (xzic_Text : Tzic_Text) (xzic_Month : Tzic_Month) (xzic_Clock : Tzic_Clock) (xepactref09_Same : Tepactref09_Same) : EqF Tryd.prog 162 gives Tryd.f11 [Jzic_Parse xzic_Parse, Jzic_Text xzic_Text, Jzic_Month xzic_Month, Jzic_Clock xzic_Clock, Jepactref09_Same xepactref09_Same] [] (Jepactlaw11_small (Yepactlaw11_small xzic_Parse xzic_Text xzic_Month xzic_Clock xepactref09_Same)) := fun x y K => by kernel_rfl
theorem Iepactlaw11_small_ok : InstOk Tryd.prog G.1 Iepactlaw11_small := iok (gives := gives) [] (okCons Izic_Parse_ok (okCons Izic_Text_ok (okCons Izic_Month_ok (okCons Izic_Clock_ok (okCons Iepactref09_Same_ok okNil))))) 162 follows Tryd.func11 (by kernel_rfl) (fun x => by kernel_rfl) (Eepactlaw11_small Xzic_Parse Xzic_Text Xzic_Month Xzic_Clock Xepactref09_Same)

/- epact/epactlaw11.ZicMonths -/
abbrev Tepactlaw11_ZicMonths : Type := Int → Int → (Bool → Prop) → Prop
def Yepactlaw11_ZicMonths (xepactlaw11_small : Tepactlaw11_small) (xzic_Month : Tzic_Month) (xlines_Fold : Tlines_Fold) (a0 : Int) (a1 : Int) (K : Bool → Prop) : Prop :=
 xepactlaw11_small (fun r2 =>
 (if decide (a0 < 1) then
 K r2
 else
 (if decide (a0 > 12) then
 K r2
 else
 (if decide (a1 < 0) then
 K r2
 else
 (if 0 ≤ w64 (a0 - 1) ∧ w64 (a0 - 1) < 12 then
 (Eng.asStr (Eng.getC [Eng.V.c (Value.string (ByteArray.mk #[(74 : UInt8), (97 : UInt8), (110 : UInt8), (117 : UInt8), (97 : UInt8), (114 : UInt8), (121 : UInt8)])), Eng.V.c (Value.string (ByteArray.mk #[(70 : UInt8), (101 : UInt8), (98 : UInt8), (114 : UInt8), (117 : UInt8), (97 : UInt8), (114 : UInt8), (121 : UInt8)])), Eng.V.c (Value.string (ByteArray.mk #[(77 : UInt8), (97 : UInt8), (114 : UInt8), (99 : UInt8), (104 : UInt8)])), Eng.V.c (Value.string (ByteArray.mk #[(65 : UInt8), (112 : UInt8), (114 : UInt8), (105 : UInt8), (108 : UInt8)])), Eng.V.c (Value.string (ByteArray.mk #[(77 : UInt8), (97 : UInt8), (121 : UInt8)])), Eng.V.c (Value.string (ByteArray.mk #[(74 : UInt8), (117 : UInt8), (110 : UInt8), (101 : UInt8)])), Eng.V.c (Value.string (ByteArray.mk #[(74 : UInt8), (117 : UInt8), (108 : UInt8), (121 : UInt8)])), Eng.V.c (Value.string (ByteArray.mk #[(65 : UInt8), (117 : UInt8), (103 : UInt8), (117 : UInt8), (115 : UInt8), (116 : UInt8)])), Eng.V.c (Value.string (ByteArray.mk #[(83 : UInt8), (101 : UInt8), (112 : UInt8), (116 : UInt8), (101 : UInt8), (109 : UInt8), (98 : UInt8), (101 : UInt8), (114 : UInt8)])), Eng.V.c (Value.string (ByteArray.mk #[(79 : UInt8), (99 : UInt8), (116 : UInt8), (111 : UInt8), (98 : UInt8), (101 : UInt8), (114 : UInt8)])), Eng.V.c (Value.string (ByteArray.mk #[(78 : UInt8), (111 : UInt8), (118 : UInt8), (101 : UInt8), (109 : UInt8), (98 : UInt8), (101 : UInt8), (114 : UInt8)])), Eng.V.c (Value.string (ByteArray.mk #[(68 : UInt8), (101 : UInt8), (99 : UInt8), (101 : UInt8), (109 : UInt8), (98 : UInt8), (101 : UInt8), (114 : UInt8)]))] (Int.toNat (w64 (a0 - 1))) (0 : Nat)) False fun t3 =>
 (if decide (a1 < (↑(ByteArray.size t3) : Int)) then
 (if 0 ≤ a1 ∧ a1 ≤ (↑(ByteArray.size t3) : Int) then
 (if (0 :Int) ≤ 0 ∧ 0 ≤ a1 then
 xzic_Month (ByteArray.extract t3 (0 : Nat) (Int.toNat a1)) (fun r4 r5 =>
 xlines_Fold (ByteArray.extract t3 (0 : Nat) (Int.toNat a1)) (fun r6 =>
 xzic_Month r6 (fun r7 r8 =>
 (if 0 ≤ w64 (a0 - 1) ∧ w64 (a0 - 1) < 12 then
 (Eng.asStr (Eng.getC [Eng.V.c (Value.string (ByteArray.mk #[(74 : UInt8), (97 : UInt8), (110 : UInt8), (117 : UInt8), (97 : UInt8), (114 : UInt8), (121 : UInt8)])), Eng.V.c (Value.string (ByteArray.mk #[(70 : UInt8), (101 : UInt8), (98 : UInt8), (114 : UInt8), (117 : UInt8), (97 : UInt8), (114 : UInt8), (121 : UInt8)])), Eng.V.c (Value.string (ByteArray.mk #[(77 : UInt8), (97 : UInt8), (114 : UInt8), (99 : UInt8), (104 : UInt8)])), Eng.V.c (Value.string (ByteArray.mk #[(65 : UInt8), (112 : UInt8), (114 : UInt8), (105 : UInt8), (108 : UInt8)])), Eng.V.c (Value.string (ByteArray.mk #[(77 : UInt8), (97 : UInt8), (121 : UInt8)])), Eng.V.c (Value.string (ByteArray.mk #[(74 : UInt8), (117 : UInt8), (110 : UInt8), (101 : UInt8)])), Eng.V.c (Value.string (ByteArray.mk #[(74 : UInt8), (117 : UInt8), (108 : UInt8), (121 : UInt8)])), Eng.V.c (Value.string (ByteArray.mk #[(65 : UInt8), (117 : UInt8), (103 : UInt8), (117 : UInt8), (115 : UInt8), (116 : UInt8)])), Eng.V.c (Value.string (ByteArray.mk #[(83 : UInt8), (101 : UInt8), (112 : UInt8), (116 : UInt8), (101 : UInt8), (109 : UInt8), (98 : UInt8), (101 : UInt8), (114 : UInt8)])), Eng.V.c (Value.string (ByteArray.mk #[(79 : UInt8), (99 : UInt8), (116 : UInt8), (111 : UInt8), (98 : UInt8), (101 : UInt8), (114 : UInt8)])), Eng.V.c (Value.string (ByteArray.mk #[(78 : UInt8), (111 : UInt8), (118 : UInt8), (101 : UInt8), (109 : UInt8), (98 : UInt8), (101 : UInt8), (114 : UInt8)])), Eng.V.c (Value.string (ByteArray.mk #[(68 : UInt8), (101 : UInt8), (99 : UInt8), (101 : UInt8), (109 : UInt8), (98 : UInt8), (101 : UInt8), (114 : UInt8)]))] (Int.toNat (w64 (a0 - 1))) (0 : Nat)) False fun t9 =>
 (if (↑(ByteArray.size t9 + (1 : Nat)) : Int) > 9223372036854775807 then
 False
 else
 xzic_Month (t9 ++ ByteArray.mk #[(120 : UInt8)]) (fun r10 r11 =>
 (if decide (a1 < 3) then
 (if r2 then
 (if (!r5) then
 (if (!r8) then
 (if (r4 == 0) then
 K !r11
 else
 K false)
 else
 K false)
 else
 K false)
 else
 K false)
 else
 (if r2 then
 (if (r4 == a0) then
 (if r5 then
 (if (r7 == a0) then
 (if r8 then
 K !r11
 else
 K false)
 else
 K false)
 else
 K false)
 else
 K false)
 else
 K false)))))
 else
 False))))
 else
 False)
 else
 False)
 else
 xzic_Month t3 (fun r12 r13 =>
 xlines_Fold t3 (fun r14 =>
 xzic_Month r14 (fun r15 r16 =>
 (if 0 ≤ w64 (a0 - 1) ∧ w64 (a0 - 1) < 12 then
 (Eng.asStr (Eng.getC [Eng.V.c (Value.string (ByteArray.mk #[(74 : UInt8), (97 : UInt8), (110 : UInt8), (117 : UInt8), (97 : UInt8), (114 : UInt8), (121 : UInt8)])), Eng.V.c (Value.string (ByteArray.mk #[(70 : UInt8), (101 : UInt8), (98 : UInt8), (114 : UInt8), (117 : UInt8), (97 : UInt8), (114 : UInt8), (121 : UInt8)])), Eng.V.c (Value.string (ByteArray.mk #[(77 : UInt8), (97 : UInt8), (114 : UInt8), (99 : UInt8), (104 : UInt8)])), Eng.V.c (Value.string (ByteArray.mk #[(65 : UInt8), (112 : UInt8), (114 : UInt8), (105 : UInt8), (108 : UInt8)])), Eng.V.c (Value.string (ByteArray.mk #[(77 : UInt8), (97 : UInt8), (121 : UInt8)])), Eng.V.c (Value.string (ByteArray.mk #[(74 : UInt8), (117 : UInt8), (110 : UInt8), (101 : UInt8)])), Eng.V.c (Value.string (ByteArray.mk #[(74 : UInt8), (117 : UInt8), (108 : UInt8), (121 : UInt8)])), Eng.V.c (Value.string (ByteArray.mk #[(65 : UInt8), (117 : UInt8), (103 : UInt8), (117 : UInt8), (115 : UInt8), (116 : UInt8)])), Eng.V.c (Value.string (ByteArray.mk #[(83 : UInt8), (101 : UInt8), (112 : UInt8), (116 : UInt8), (101 : UInt8), (109 : UInt8), (98 : UInt8), (101 : UInt8), (114 : UInt8)])), Eng.V.c (Value.string (ByteArray.mk #[(79 : UInt8), (99 : UInt8), (116 : UInt8), (111 : UInt8), (98 : UInt8), (101 : UInt8), (114 : UInt8)])), Eng.V.c (Value.string (ByteArray.mk #[(78 : UInt8), (111 : UInt8), (118 : UInt8), (101 : UInt8), (109 : UInt8), (98 : UInt8), (101 : UInt8), (114 : UInt8)])), Eng.V.c (Value.string (ByteArray.mk #[(68 : UInt8), (101 : UInt8), (99 : UInt8), (101 : UInt8), (109 : UInt8), (98 : UInt8), (101 : UInt8), (114 : UInt8)]))] (Int.toNat (w64 (a0 - 1))) (0 : Nat)) False fun t17 =>
 (if (↑(ByteArray.size t17 + (1 : Nat)) : Int) > 9223372036854775807 then
 False
 else
 xzic_Month (t17 ++ ByteArray.mk #[(120 : UInt8)]) (fun r18 r19 =>
 (if decide (a1 < 3) then
 (if r2 then
 (if (!r13) then
 (if (!r16) then
 (if (r12 == 0) then
 K !r19
 else
 K false)
 else
 K false)
 else
 K false)
 else
 K false)
 else
 (if r2 then
 (if (r12 == a0) then
 (if r13 then
 (if (r15 == a0) then
 (if r16 then
 K !r19
 else
 K false)
 else
 K false)
 else
 K false)
 else
 K false)
 else
 K false)))))
 else
 False))))))
 else
 False)))))
def Xepactlaw11_ZicMonths : Tepactlaw11_ZicMonths := Yepactlaw11_ZicMonths Xepactlaw11_small Xzic_Month Xlines_Fold
def Jepactlaw11_ZicMonths (X : Tepactlaw11_ZicMonths) : Inst := mkI 6 pL24 .nil pL8 .nil X
def Iepactlaw11_ZicMonths : Inst := Jepactlaw11_ZicMonths Xepactlaw11_ZicMonths
theorem Eepactlaw11_ZicMonths (xepactlaw11_small : Tepactlaw11_small) (xzic_Month : Tzic_Month) (xlines_Fold : Tlines_Fold) : EqF Tryd.prog 100 gives Tryd.f6 [Jepactlaw11_small xepactlaw11_small, Jzic_Month xzic_Month, Jlines_Fold xlines_Fold] [] (Jepactlaw11_ZicMonths (Yepactlaw11_ZicMonths xepactlaw11_small xzic_Month xlines_Fold)) := fun x y K => by kernel_rfl
theorem Iepactlaw11_ZicMonths_ok : InstOk Tryd.prog G.1 Iepactlaw11_ZicMonths := iok (gives := gives) [] (okCons Iepactlaw11_small_ok (okCons Izic_Month_ok (okCons Ilines_Fold_ok okNil))) 100 follows Tryd.func6 (by kernel_rfl) (fun x => by kernel_rfl) (Eepactlaw11_ZicMonths Xepactlaw11_small Xzic_Month Xlines_Fold)

/- epact/epactlaw11.ZicRight -/
abbrev Tepactlaw11_ZicRight : Type := ByteArray → (Bool → Prop) → Prop
def Yepactlaw11_ZicRight (xepactlaw11_small : Tepactlaw11_small) (xzic_Parse : Tzic_Parse) (xepactref09_Same : Tepactref09_Same) (xlines_Split : Tlines_Split) (xleap_Right : Tleap_Right) (a0 : ByteArray) (K : Bool → Prop) : Prop :=
 xepactlaw11_small (fun r1 =>
 (if decide ((↑(ByteArray.size a0) : Int) > 3000) then
 K r1
 else
 xzic_Parse a0 (fun r2 r3 r4 r5 r6 =>
 (if (r3.2.1 != 0) then
 (if r1 then
 xepactref09_Same (r4, r2.2) ([], false, 0, ()) (fun r7 =>
 (if r7 then
 (if decide (r3.1 ≥ 1) then
 xlines_Split a0 (fun r8 r9 r10 =>
 K (decide (r3.1 ≤ (↑(List.length r8) : Int))))
 else
 K false)
 else
 K false))
 else
 K false)
 else
 (if r1 then
 (if (r3.1 == 0) then
 xleap_Right (r4, r2.2) (fun r11 =>
 K r11)
 else
 K false)
 else
 K false)))))
def Xepactlaw11_ZicRight : Tepactlaw11_ZicRight := Yepactlaw11_ZicRight Xepactlaw11_small Xzic_Parse Xepactref09_Same Xlines_Split Xleap_Right
def Jepactlaw11_ZicRight (X : Tepactlaw11_ZicRight) : Inst := mkI 4 pL9 .nil pL8 .nil X
def Iepactlaw11_ZicRight : Inst := Jepactlaw11_ZicRight Xepactlaw11_ZicRight
theorem Eepactlaw11_ZicRight (xepactlaw11_small : Tepactlaw11_small) (xzic_Parse : Tzic_Parse) (xepactref09_Same : Tepactref09_Same) (xlines_Split : Tlines_Split) (xleap_Right : Tleap_Right) : EqF Tryd.prog 48 gives Tryd.f4 [Jepactlaw11_small xepactlaw11_small, Jzic_Parse xzic_Parse, Jepactref09_Same xepactref09_Same, Jlines_Split xlines_Split, Jleap_Right xleap_Right] [] (Jepactlaw11_ZicRight (Yepactlaw11_ZicRight xepactlaw11_small xzic_Parse xepactref09_Same xlines_Split xleap_Right)) := fun x y K => by kernel_rfl
theorem Iepactlaw11_ZicRight_ok : InstOk Tryd.prog G.1 Iepactlaw11_ZicRight := iok (gives := gives) [] (okCons Iepactlaw11_small_ok (okCons Izic_Parse_ok (okCons Iepactref09_Same_ok (okCons Ilines_Split_ok (okCons Ileap_Right_ok okNil))))) 48 follows Tryd.func4 (by kernel_rfl) (fun x => by kernel_rfl) (Eepactlaw11_ZicRight Xepactlaw11_small Xzic_Parse Xepactref09_Same Xlines_Split Xleap_Right)

/- epact/epactlaw09.Few -/
abbrev Tepactlaw09_Few : Type := Q49 → (Bool → Prop) → Prop
def Yepactlaw09_Few (a0 : Q49) (K : Bool → Prop) : Prop :=
 K (decide ((↑(List.length a0.1) : Int) ≤ 300))
def Xepactlaw09_Few : Tepactlaw09_Few := Yepactlaw09_Few
def Jepactlaw09_Few (X : Tepactlaw09_Few) : Inst := mkI 12 pL53 .nil pL8 .nil X
def Iepactlaw09_Few : Inst := Jepactlaw09_Few Xepactlaw09_Few
theorem Eepactlaw09_Few : EqF Tryd.prog 7 gives Tryd.f12 [] [] (Jepactlaw09_Few (Yepactlaw09_Few)) := fun x y K => by kernel_rfl
theorem Iepactlaw09_Few_ok : InstOk Tryd.prog G.1 Iepactlaw09_Few := iok (gives := gives) [] okNil 7 follows Tryd.func12 (by kernel_rfl) (fun x => by kernel_rfl) (Eepactlaw09_Few)

/- epact/epactlaw11.ZicBack -/
abbrev Tepactlaw11_ZicBack : Type := Q49 → (Bool → Prop) → Prop
def Yepactlaw11_ZicBack (xepactlaw11_small : Tepactlaw11_small) (xepactlaw09_Few : Tepactlaw09_Few) (xzic_Text : Tzic_Text) (xleap_Right : Tleap_Right) (xzic_Parse : Tzic_Parse) (xepactref09_Same : Tepactref09_Same) (a0 : Q49) (K : Bool → Prop) : Prop :=
 xepactlaw11_small (fun r1 =>
 xepactlaw09_Few a0 (fun r2 =>
 (if (!r2) then
 K r1
 else
 xzic_Text a0 (fun r3 r4 =>
 (if (!r4) then
 (if r1 then
 (if (ByteArray.toList r3 == ByteArray.toList (ByteArray.mk #[])) then
 xleap_Right a0 (fun r5 =>
 K !r5)
 else
 K false)
 else
 K false)
 else
 xzic_Parse r3 (fun r6 r7 r8 r9 r10 =>
 (if r1 then
 (if (r7.1 == 0 && (r7.2.1 == 0 && true)) then
 xepactref09_Same (r8, r6.2) a0 (fun r11 =>
 (if r11 then
 xleap_Right a0 (fun r12 =>
 K r12)
 else
 K false))
 else
 K false)
 else
 K false)))))))
def Xepactlaw11_ZicBack : Tepactlaw11_ZicBack := Yepactlaw11_ZicBack Xepactlaw11_small Xepactlaw09_Few Xzic_Text Xleap_Right Xzic_Parse Xepactref09_Same
def Jepactlaw11_ZicBack (X : Tepactlaw11_ZicBack) : Inst := mkI 3 pL53 .nil pL8 .nil X
def Iepactlaw11_ZicBack : Inst := Jepactlaw11_ZicBack Xepactlaw11_ZicBack
theorem Eepactlaw11_ZicBack (xepactlaw11_small : Tepactlaw11_small) (xepactlaw09_Few : Tepactlaw09_Few) (xzic_Text : Tzic_Text) (xleap_Right : Tleap_Right) (xzic_Parse : Tzic_Parse) (xepactref09_Same : Tepactref09_Same) : EqF Tryd.prog 52 gives Tryd.f3 [Jepactlaw11_small xepactlaw11_small, Jepactlaw09_Few xepactlaw09_Few, Jzic_Text xzic_Text, Jleap_Right xleap_Right, Jzic_Parse xzic_Parse, Jepactref09_Same xepactref09_Same] [] (Jepactlaw11_ZicBack (Yepactlaw11_ZicBack xepactlaw11_small xepactlaw09_Few xzic_Text xleap_Right xzic_Parse xepactref09_Same)) := fun x y K => by kernel_rfl
theorem Iepactlaw11_ZicBack_ok : InstOk Tryd.prog G.1 Iepactlaw11_ZicBack := iok (gives := gives) [] (okCons Iepactlaw11_small_ok (okCons Iepactlaw09_Few_ok (okCons Izic_Text_ok (okCons Ileap_Right_ok (okCons Izic_Parse_ok (okCons Iepactref09_Same_ok okNil)))))) 52 follows Tryd.func3 (by kernel_rfl) (fun x => by kernel_rfl) (Eepactlaw11_ZicBack Xepactlaw11_small Xepactlaw09_Few Xzic_Text Xleap_Right Xzic_Parse Xepactref09_Same)

end Go.Proofs.YtoiiblhbojhogaaDoor
end
section
set_option linter.unusedVariables false
set_option linter.unusedSimpArgs false
namespace Go.Proofs.YtoiiblhbojhogaaDoor
open Go Go.Proofs.YtoiiblhbojhogaaDoor.Eng
set_option linter.unusedVariables false
set_option maxRecDepth 100000
set_option maxHeartbeats 4000000
variable {G : Gs}
/- epact/epactlaw11.ZicWords -/
abbrev Tepactlaw11_ZicWords : Type := ByteArray → ByteArray → Int → (Bool → Prop) → Prop
def Lepactlaw11_ZicWords_4 (xzic_Parse : Tzic_Parse) (xepactref09_Same : Tepactref09_Same) (K : Bool → Prop) (k7 : Q78 → Prop) (k9 : Q79 → Prop) : (Q80 → Prop) → Q80 → Prop := fun k31 x32 =>
 (if decide (x32.1.2.2.2.2.2.1 < (↑(ByteArray.size x32.1.1) : Int)) then
 (if 0 ≤ x32.1.2.2.2.2.2.1 ∧ x32.1.2.2.2.2.2.1 < (↑(ByteArray.size x32.1.1) : Int) then
 (if (Eng.bAt x32.1.1 (Int.toNat x32.1.2.2.2.2.2.1) == 35) then
 K x32.1.2.2.2.1
 else
 (if 0 ≤ x32.1.2.2.2.2.2.1 ∧ x32.1.2.2.2.2.2.1 < (↑(ByteArray.size x32.1.1) : Int) then
 (if (Eng.bAt x32.1.1 (Int.toNat x32.1.2.2.2.2.2.1) == 13) then
 K x32.1.2.2.2.1
 else
 k31 ((x32.1.1, x32.1.2.1, x32.1.2.2.1, x32.1.2.2.2.1, x32.1.2.2.2.2.1, w64 (x32.1.2.2.2.2.2.1 + 1), ()), ()))
 else
 False))
 else
 False)
 else
 xzic_Parse x32.1.1 (fun r33 r34 r35 r36 r37 =>
 xzic_Parse x32.1.2.2.2.2.1 (fun r38 r39 r40 r41 r42 =>
 (if decide (r34.1 > x32.1.2.1) then
 (if x32.1.2.2.2.1 then
 xepactref09_Same (r35, r33.2) (r40, r38.2) (fun r43 =>
 (if r43 then
 (lt (w64 (r34.1 + 1) == r39.1 && (r34.2.1 == r39.2.1 && true)) fun v44 =>
 K v44)
 else
 K false))
 else
 K false)
 else
 (if x32.1.2.2.2.1 then
 xepactref09_Same (r35, r33.2) (r40, r38.2) (fun r45 =>
 (if r45 then
 K (r34.1 == r39.1 && (r34.2.1 == r39.2.1 && true))
 else
 K false))
 else
 K false)))))
def Lepactlaw11_ZicWords_4p : Lp := ⟨17605, [.trim 17605], pT81, .nil, 0⟩
def Lepactlaw11_ZicWords_2 (xlines_Fold : Tlines_Fold) (K : Bool → Prop) (k7 : Q78 → Prop) (k9 : Q79 → Prop) : (Q82 → Prop) → Q82 → Prop := fun k17 x18 =>
 (if decide (x18.1.2.2.2.2.2.2.2.2.2.1 < (↑(List.length x18.2.2.1.1) : Int)) then
 (if (↑(ByteArray.size x18.1.2.2.2.2.2.2.1 + (2 : Nat)) : Int) > 9223372036854775807 then
 False
 else
 (lt (x18.1.2.2.2.2.2.2.1 ++ ByteArray.mk #[(9 : UInt8), (32 : UInt8)]) fun v19 =>
 (if 0 ≤ x18.1.2.2.2.2.2.2.2.2.2.1 ∧ x18.1.2.2.2.2.2.2.2.2.2.1 < (↑(List.length x18.2.2.1.1) : Int) then
 (Eng.asStr (Eng.getC x18.2.2.1.1 (Int.toNat x18.1.2.2.2.2.2.2.2.2.2.1) (0 : Nat)) False fun t20 =>
 xlines_Fold t20 (fun r21 =>
 (if (↑(ByteArray.size v19 + ByteArray.size r21) : Int) > 9223372036854775807 then
 False
 else
 k17 ((x18.1.1, x18.1.2.1, x18.1.2.2.1, x18.1.2.2.2.1, x18.1.2.2.2.2.1, (), v19 ++ r21, x18.1.2.2.2.2.2.2.2.1, (), w64 (x18.1.2.2.2.2.2.2.2.2.2.1 + 1), ()), x18.2))))
 else
 False)))
 else
 (if (↑(ByteArray.size x18.1.2.2.2.2.2.2.1 + (1 : Nat)) : Int) > 9223372036854775807 then
 False
 else
 k9 ((x18.1.1, x18.1.2.1, x18.1.2.2.1, x18.1.2.2.2.1, x18.1.2.2.2.2.1, (), x18.1.2.2.2.2.2.2.1 ++ ByteArray.mk #[(10 : UInt8)], w64 (x18.1.2.2.2.2.2.2.2.1 + 1), ()), x18.2.1, ())))
def Lepactlaw11_ZicWords_2p : Lp := ⟨15815, [.trim 15815], pT83, pH84, 0⟩
def Lepactlaw11_ZicWords_1 (xlines_Words : Tlines_Words) (xlines_Fold : Tlines_Fold) (xzic_Parse : Tzic_Parse) (xepactref09_Same : Tepactref09_Same) (K : Bool → Prop) (k7 : Q78 → Prop) : (Q79 → Prop) → Q79 → Prop := fun k9 x10 =>
 (if decide (x10.1.2.2.2.2.2.2.2.1 ≤ (↑(List.length x10.2.1.1) : Int)) then
 (if (x10.1.2.2.2.2.2.2.2.1 == x10.1.2.2.1) then
 (if (↑(ByteArray.size x10.1.2.2.2.2.2.2.1 + (2 : Nat)) : Int) > 9223372036854775807 then
 False
 else
 (lt (x10.1.2.2.2.2.2.2.1 ++ ByteArray.mk #[(32 : UInt8), (35 : UInt8)]) fun v11 =>
 (if (↑(ByteArray.size v11 + ByteArray.size x10.1.2.1) : Int) > 9223372036854775807 then
 False
 else
 (if (↑(ByteArray.size (v11 ++ x10.1.2.1) + (1 : Nat)) : Int) > 9223372036854775807 then
 False
 else
 (lt (v11 ++ x10.1.2.1 ++ ByteArray.mk #[(10 : UInt8)]) fun v12 =>
 (if decide (x10.1.2.2.2.2.2.2.2.1 < (↑(List.length x10.2.1.1) : Int)) then
 (if 0 ≤ x10.1.2.2.2.2.2.2.2.1 ∧ x10.1.2.2.2.2.2.2.2.1 < (↑(List.length x10.2.1.1) : Int) then
 (Eng.asStr (Eng.getC x10.2.1.1 (Int.toNat x10.1.2.2.2.2.2.2.2.1) (0 : Nat)) False fun t13 =>
 xlines_Words t13 (fun r14 r15 r16 =>
 lp (Lepactlaw11_ZicWords_2 xlines_Fold K k7 k9) ((x10.1.1, x10.1.2.1, x10.1.2.2.1, x10.1.2.2.2.1, x10.1.2.2.2.2.1, (), v12, x10.1.2.2.2.2.2.2.2.1, (), 0, ()), x10.2.1, (r14, r15, r16), ())))
 else
 False)
 else
 k9 ((x10.1.1, x10.1.2.1, x10.1.2.2.1, x10.1.2.2.2.1, x10.1.2.2.2.2.1, (), v12, w64 (x10.1.2.2.2.2.2.2.2.1 + 1), ()), x10.2)))))))
 else
 (if decide (x10.1.2.2.2.2.2.2.2.1 < (↑(List.length x10.2.1.1) : Int)) then
 (if 0 ≤ x10.1.2.2.2.2.2.2.2.1 ∧ x10.1.2.2.2.2.2.2.2.1 < (↑(List.length x10.2.1.1) : Int) then
 (Eng.asStr (Eng.getC x10.2.1.1 (Int.toNat x10.1.2.2.2.2.2.2.2.1) (0 : Nat)) False fun t22 =>
 xlines_Words t22 (fun r23 r24 r25 =>
 lp (Lepactlaw11_ZicWords_2 xlines_Fold K k7 k9) ((x10.1.1, x10.1.2.1, x10.1.2.2.1, x10.1.2.2.2.1, x10.1.2.2.2.2.1, (), x10.1.2.2.2.2.2.2.1, x10.1.2.2.2.2.2.2.2.1, (), 0, ()), x10.2.1, (r23, r24, r25), ())))
 else
 False)
 else
 k9 ((x10.1.1, x10.1.2.1, x10.1.2.2.1, x10.1.2.2.2.1, x10.1.2.2.2.2.1, (), x10.1.2.2.2.2.2.2.1, w64 (x10.1.2.2.2.2.2.2.2.1 + 1), ()), x10.2)))
 else
 lp (Lepactlaw11_ZicWords_4 xzic_Parse xepactref09_Same K k7 k9) ((x10.1.1, x10.1.2.2.1, x10.1.2.2.2.1, x10.1.2.2.2.2.1, x10.1.2.2.2.2.2.2.1, 0, ()), ()))
def Lepactlaw11_ZicWords_1p : Lp := ⟨3527, [.trim 3527], pT85, pH86, 0⟩
def Lepactlaw11_ZicWords_0 (xlines_Words : Tlines_Words) (xlines_Fold : Tlines_Fold) (xzic_Parse : Tzic_Parse) (xepactref09_Same : Tepactref09_Same) (K : Bool → Prop) : (Q78 → Prop) → Q78 → Prop := fun k7 x8 =>
 (if decide (x8.1.2.2.2.2.2.2.1 < (↑(ByteArray.size x8.1.2.1) : Int)) then
 (if 0 ≤ x8.1.2.2.2.2.2.2.1 ∧ x8.1.2.2.2.2.2.2.1 < (↑(ByteArray.size x8.1.2.1) : Int) then
 (if (Eng.bAt x8.1.2.1 (Int.toNat x8.1.2.2.2.2.2.2.1) == 10) then
 K x8.1.2.2.2.2.1
 else
 k7 ((x8.1.1, x8.1.2.1, x8.1.2.2.1, x8.1.2.2.2.1, x8.1.2.2.2.2.1, (), w64 (x8.1.2.2.2.2.2.2.1 + 1), ()), x8.2))
 else
 False)
 else
 lp (Lepactlaw11_ZicWords_1 xlines_Words xlines_Fold xzic_Parse xepactref09_Same K k7) ((x8.1.1, x8.1.2.1, x8.1.2.2.1, x8.1.2.2.2.1, x8.1.2.2.2.2.1, (), ByteArray.mk #[], 0, ()), x8.2))
def Lepactlaw11_ZicWords_0p : Lp := ⟨967, [.trim 967], pT87, pH86, 0⟩
def Yepactlaw11_ZicWords (xepactlaw11_small : Tepactlaw11_small) (xlines_Split : Tlines_Split) (xlines_Words : Tlines_Words) (xlines_Fold : Tlines_Fold) (xzic_Parse : Tzic_Parse) (xepactref09_Same : Tepactref09_Same) (a0 : ByteArray) (a1 : ByteArray) (a2 : Int) (K : Bool → Prop) : Prop :=
 xepactlaw11_small (fun r3 =>
 xlines_Split a0 (fun r4 r5 r6 =>
 (if decide ((↑(ByteArray.size a0) : Int) > 2000) then
 K r3
 else
 (if decide ((↑(ByteArray.size a1) : Int) > 100) then
 K r3
 else
 (if decide (a2 < 0) then
 K r3
 else
 (if decide (a2 > (↑(List.length r4) : Int)) then
 K r3
 else
 lp (Lepactlaw11_ZicWords_0 xlines_Words xlines_Fold xzic_Parse xepactref09_Same K) ((a0, a1, a2, false, r3, (), 0, ()), (r4, r5, r6), ())))))))
def Xepactlaw11_ZicWords : Tepactlaw11_ZicWords := Yepactlaw11_ZicWords Xepactlaw11_small Xlines_Split Xlines_Words Xlines_Fold Xzic_Parse Xepactref09_Same
def Jepactlaw11_ZicWords (X : Tepactlaw11_ZicWords) : Inst := mkI 5 pL33 .nil pL8 .nil X
def Iepactlaw11_ZicWords : Inst := Jepactlaw11_ZicWords Xepactlaw11_ZicWords
theorem Eepactlaw11_ZicWords (xepactlaw11_small : Tepactlaw11_small) (xlines_Split : Tlines_Split) (xlines_Words : Tlines_Words) (xlines_Fold : Tlines_Fold) (xzic_Parse : Tzic_Parse) (xepactref09_Same : Tepactref09_Same) : EqF Tryd.prog 137 gives Tryd.f5 [Jepactlaw11_small xepactlaw11_small, Jlines_Split xlines_Split, Jlines_Words xlines_Words, Jlines_Fold xlines_Fold, Jzic_Parse xzic_Parse, Jepactref09_Same xepactref09_Same] [Lepactlaw11_ZicWords_0p, Lepactlaw11_ZicWords_1p, Lepactlaw11_ZicWords_2p, Lepactlaw11_ZicWords_4p] (Jepactlaw11_ZicWords (Yepactlaw11_ZicWords xepactlaw11_small xlines_Split xlines_Words xlines_Fold xzic_Parse xepactref09_Same)) := fun x y K => by kernel_rfl
theorem Iepactlaw11_ZicWords_ok : InstOk Tryd.prog G.1 Iepactlaw11_ZicWords := iok (gives := gives) [Lepactlaw11_ZicWords_0p, Lepactlaw11_ZicWords_1p, Lepactlaw11_ZicWords_2p, Lepactlaw11_ZicWords_4p] (okCons Iepactlaw11_small_ok (okCons Ilines_Split_ok (okCons Ilines_Words_ok (okCons Ilines_Fold_ok (okCons Izic_Parse_ok (okCons Iepactref09_Same_ok okNil)))))) 137 follows Tryd.func5 (by kernel_rfl) (fun x => by kernel_rfl) (Eepactlaw11_ZicWords Xepactlaw11_small Xlines_Split Xlines_Words Xlines_Fold Xzic_Parse Xepactref09_Same)

end Go.Proofs.YtoiiblhbojhogaaDoor
end
section
set_option linter.unusedVariables false
set_option linter.unusedSimpArgs false

end
section
set_option linter.unusedVariables false
set_option linter.unusedSimpArgs false
set_option linter.unusedVariables false
namespace Go.Proofs.YtoiiblhbojhogaaDoor
open Go Go.Proofs.YtoiiblhbojhogaaDoor.Eng
abbrev akZicWords0 : AK := .str
abbrev akZicWords1 : AK := .str
abbrev akZicWords2 : AK := (.int .i64)
/-- The law over plain data. -/
def PureZicWords : Prop := ∀ (a0 : akZicWords0.T) (h0 : akZicWords0.good a0) (b0 : ByteArray.size a0 ≤ 1048576) (a1 : akZicWords1.T) (h1 : akZicWords1.good a1) (b1 : ByteArray.size a1 ≤ 1048576) (a2 : akZicWords2.T) (h2 : akZicWords2.good a2), Xepactlaw11_ZicWords (akZicWords0.DV a0) (akZicWords1.DV a1) (akZicWords2.DV a2) (fun b => b = true)
end Go.Proofs.YtoiiblhbojhogaaDoor
end
section
set_option linter.unusedVariables false
set_option linter.unusedSimpArgs false
namespace Go.Proofs.YtoiiblhbojhogaaDoor.Pl
open Go
set_option linter.unusedVariables false
set_option linter.unusedSimpArgs false

def digsN : Nat → Nat → List UInt8
  | 0, _ => []
  | k + 1, u => if u < 10 then [UInt8.ofNat (48 + u)] else digsN k (u / 10) ++ [UInt8.ofNat (48 + u % 10)]
theorem digsN_eq : ∀ k u, u < 10 ^ (k + 1) → digsN (k + 1) u = Lib.decDigits u
  | 0, u, h => by rw [Lib.decDigits, digsN, if_pos (by simpa using h), dif_pos (by simpa using h)]
  | k + 1, u, h => by
    rw [Lib.decDigits, digsN]
    by_cases h1 : u < 10
    · rw [if_pos h1, dif_pos h1]
    · rw [if_neg h1, dif_neg h1, digsN_eq k (u / 10) (by rw [Nat.pow_succ] at h; omega)]
def itoaK (n : Int) : List UInt8 := if n < 0 then 45 :: digsN 20 n.natAbs else digsN 20 n.toNat
theorem itoaK_eq (n : Int) (h0 : -9223372036854775808 ≤ n) (h1 : n ≤ 9223372036854775807) : itoaK n = Lib.itoa n := by
  unfold itoaK Lib.itoa
  split
  · rw [digsN_eq 19 _ (by omega)]
  · rw [digsN_eq 19 _ (by omega)]
def isDig (c : UInt8) : Bool := 48 ≤ c.toNat && c.toNat ≤ 57
theorem takeWhile_len_of {p : UInt8 → Bool} : ∀ (l : List UInt8) (k : Nat), k ≤ l.length → (∀ j (h : j < l.length), j < k → p l[j] = true) → (∀ h : k < l.length, p l[k] = false) → (l.takeWhile p).length = k
  | [], k, hk, _, _ => by simp at hk; simp [hk]
  | a :: l, 0, _, _, h => by have := h (by simp); simp at this; simp [List.takeWhile_cons, this]
  | a :: l, k + 1, hk, h1, h2 => by
    have ha : p a = true := h1 0 (by simp) (by omega)
    rw [List.takeWhile_cons, if_pos ha, List.length_cons, takeWhile_len_of l k (by simpa using hk) (fun j hj hjk => by have := h1 (j + 1) (by simpa using hj) (by omega); simpa using this) (fun hk' => by have := h2 (by simpa using hk'); simpa using this)]
theorem decode_dig (s : ByteArray) (pos : Nat) (h : pos < s.size) : ((48 ≤ (Utf8.decode s pos).1 ∧ (Utf8.decode s pos).1 ≤ 57) → isDig s[pos] = true ∧ (Utf8.decode s pos).2 = 1) ∧ (¬ (48 ≤ (Utf8.decode s pos).1 ∧ (Utf8.decode s pos).1 ≤ 57) → isDig s[pos] = false) := by
  by_cases ha : (s[pos]'h).toNat < 128
  · rw [decode_ascii s pos h ha]
    unfold isDig
    refine ⟨fun hh => ⟨by simp; omega, rfl⟩, fun hh => ?_⟩
    simp
    omega
  · have hd := (decode_high s pos h (by omega)).1
    unfold isDig
    refine ⟨fun hh => by omega, fun _ => by simp; omega⟩

/-- A text out of a list. -/
abbrev S (l : List UInt8) : ByteArray := ⟨l.toArray⟩
theorem of_S (s : ByteArray) : s = S s.data.toList := by cases s; simp [S]
theorem S_size (l : List UInt8) : (S l).size = l.length := by simp [S, ByteArray.size]
theorem S_sizeI (l : List UInt8) : ((S l).size : Int) = (l.length : Int) := by rw [S_size]
theorem S_append (a b : List UInt8) : S a ++ S b = S (a ++ b) := ByteArray.mk_append_mk a b
theorem S_toList (l : List UInt8) : (S l).toList = l := ByteArray.toList_mk l
theorem S_data (l : List UInt8) : (S l).data.toList = l := by simp [S]
theorem S_inj {a b : List UInt8} (h : S a = S b) : a = b := by have := congrArg (fun s => s.data.toList) h; simpa [S] using this
theorem S_extract (l : List UInt8) (a b : Nat) : (S l).extract a b = S ((l.drop a).take (b - a)) := by rw [Lib.extract_eq, S_data]
theorem S_drop (l : List UInt8) (a : Nat) : (S l).extract a (S l).size = S (l.drop a) := by
  rw [S_extract, S_size, List.take_of_length_le (by simp)]
theorem S_take (l : List UInt8) (b : Nat) : (S l).extract 0 b = S (l.take b) := by rw [S_extract]; simp
theorem u8_lt (c : UInt8) : c.toNat < 256 := c.toNat_lt
theorem u8_eq {a b : UInt8} (h : a.toNat = b.toNat) : a = b := UInt8.toNat_inj.1 h

/-- How many digits a list begins with. -/
def dl (l : List UInt8) : Nat := (l.takeWhile isDig).length
theorem dl_le (l : List UInt8) : dl l ≤ l.length := by unfold dl; exact (List.takeWhile_sublist _).length_le
theorem dl_cons (c : UInt8) (l : List UInt8) : dl (c :: l) = if isDig c = true then dl l + 1 else 0 := by
  unfold dl; rw [List.takeWhile_cons]; split <;> simp
theorem dl_nil : dl [] = 0 := rfl
/-- The number of a row of digits. -/
def valL (l : List UInt8) : Nat := l.foldl (fun n c => 10 * n + (c.toNat - 48)) 0
theorem decFrom_val : ∀ (l : List UInt8) (acc : Nat), (∀ c ∈ l, isDig c = true) → Lib.decFrom acc l = some (l.foldl (fun n c => 10 * n + (c.toNat - 48)) acc)
  | [], acc, _ => rfl
  | c :: l, acc, h => by
    have hc : isDig c = true := h c (by simp)
    unfold isDig at hc
    simp at hc
    unfold Lib.decFrom Lib.digitVal
    rw [if_pos hc]
    simp only []
    rw [decFrom_val l _ (fun c' hc' => h c' (by simp [hc'])), List.foldl_cons, Nat.mul_comm]
theorem atoi_val (l : List UInt8) (hne : l ≠ []) (h : ∀ c ∈ l, isDig c = true) : Lib.atoi l = some (valL l : Int) := by
  cases l with
  | nil => exact absurd rfl hne
  | cons c r =>
    have hc : isDig c = true := h c (by simp)
    unfold isDig at hc
    simp at hc
    have h1 : (c == 45) = false := by rw [beq_eq_false_iff_ne]; rintro rfl; simp at hc
    have h2 : (c == 43) = false := by rw [beq_eq_false_iff_ne]; rintro rfl; simp at hc
    simp only [Lib.atoi, Lib.decNat, h1, h2, Bool.false_eq_true, if_false, List.isEmpty_cons]
    rw [decFrom_val _ _ h]
    rfl
theorem take_dl_dig (l : List UInt8) (k : Nat) (h : k ≤ dl l) : ∀ c ∈ l.take k, isDig c = true := by
  intro c hc
  have hs : l.take k = (l.takeWhile isDig).take k := by
    conv => lhs; rw [← List.takeWhile_append_dropWhile (p := isDig) (l := l)]
    rw [List.take_append_of_le_length h]
  rw [hs] at hc
  have hall : (l.takeWhile isDig).all isDig = true := List.all_takeWhile
  exact List.all_eq_true.1 hall c (List.mem_of_mem_take hc)

end Go.Proofs.YtoiiblhbojhogaaDoor.Pl
end
section
set_option linter.unusedVariables false
set_option linter.unusedSimpArgs false
namespace Go.Proofs.YtoiiblhbojhogaaDoor.Pl
open Go
set_option linter.unusedVariables false
set_option linter.unusedSimpArgs false

/-- What stands behind a colon: minutes, or seconds. -/
def sixtyL : List UInt8 → Int × List UInt8 × Bool
  | c :: a :: b :: r => if c = 58 ∧ isDig a = true ∧ isDig b = true ∧ a.toNat ≤ 53 then (10 * (a.toNat - 48) + (b.toNat - 48), r, true) else (0, c :: a :: b :: r, false)
  | l => (0, l, false)
theorem foldl_lt : ∀ (l : List UInt8) (acc : Nat), (∀ c ∈ l, isDig c = true) → l.foldl (fun n c => 10 * n + (c.toNat - 48)) acc < (acc + 1) * 10 ^ l.length
  | [], acc, _ => by simp
  | c :: l, acc, h => by
    have hc : isDig c = true := h c (by simp)
    unfold isDig at hc
    simp at hc
    have := foldl_lt l (10 * acc + (c.toNat - 48)) (fun c' hc' => h c' (by simp [hc']))
    rw [List.foldl_cons, List.length_cons, Nat.pow_succ]
    refine Nat.lt_of_lt_of_le this ?_
    have h1 : (10 * acc + (c.toNat - 48) + 1) ≤ (acc + 1) * 10 := by omega
    calc (10 * acc + (c.toNat - 48) + 1) * 10 ^ l.length ≤ ((acc + 1) * 10) * 10 ^ l.length := Nat.mul_le_mul_right _ h1
      _ = (acc + 1) * (10 ^ l.length * 10) := by rw [Nat.mul_assoc, Nat.mul_comm 10]
theorem valL_lt (l : List UInt8) (h : ∀ c ∈ l, isDig c = true) : valL l < 10 ^ l.length := by
  have := foldl_lt l 0 h
  simpa [valL] using this
theorem sixty_bd (l : List UInt8) : 0 ≤ (sixtyL l).1 ∧ (sixtyL l).1 ≤ 59 := by
  unfold sixtyL
  split
  · split
    · rename_i h
      obtain ⟨_, ha, hb, h5⟩ := h
      unfold isDig at ha hb
      simp at ha hb
      simp only []
      omega
    · simp
  · simp
theorem sixty_len (l : List UInt8) : (sixtyL l).2.1.length ≤ l.length := by
  unfold sixtyL
  split
  · split
    · simp; omega
    · simp
  · simp

/-- A time. -/
def signL : List UInt8 → Int × List UInt8
  | [] => (1, [])
  | c :: r => if c = 45 then (-1, r) else if c = 43 then (1, r) else (1, c :: r)
def hourL (t : List UInt8) : Nat × Nat :=
  if valL (t.take (min (dl t) 3)) > 167 then (valL (t.take (min (dl t) 3)) / 10, min (dl t) 3 - 1) else (valL (t.take (min (dl t) 3)), min (dl t) 3)
def moreL (p : Int × List UInt8 × Bool) : Int × List UInt8 × Bool := if p.2.2 = true then sixtyL p.2.1 else (0, p.2.1, false)
def timeL (l : List UInt8) : Int × List UInt8 × Bool :=
  if dl (signL l).2 = 0 then (0, l, false)
  else
    ((signL l).1 * ((hourL (signL l).2).1 * 3600 + (sixtyL ((signL l).2.drop (hourL (signL l).2).2)).1 * 60 + (moreL (sixtyL ((signL l).2.drop (hourL (signL l).2).2))).1),
      (moreL (sixtyL ((signL l).2.drop (hourL (signL l).2).2))).2.1, true)
theorem hour_bd (t : List UInt8) : (hourL t).1 ≤ 167 ∧ (hourL t).2 ≤ dl t ∧ (hourL t).2 ≤ 3 ∧ (dl t ≠ 0 → 1 ≤ (hourL t).2) := by
  have hv : valL (t.take (min (dl t) 3)) < 10 ^ (t.take (min (dl t) 3)).length := valL_lt _ (take_dl_dig t _ (Nat.min_le_left _ _))
  have hl : (t.take (min (dl t) 3)).length ≤ 3 := by rw [List.length_take]; omega
  have h3 : 10 ^ (t.take (min (dl t) 3)).length ≤ 10 ^ 3 := Nat.pow_le_pow_right (by omega) hl
  have hm : min (dl t) 3 ≤ dl t := Nat.min_le_left _ _
  have hm3 : min (dl t) 3 ≤ 3 := Nat.min_le_right _ _
  unfold hourL
  split
  · rename_i hgt
    refine ⟨by simp only []; omega, by simp only []; omega, by simp only []; omega, fun h0 => ?_⟩
    simp only []
    have : ¬ (t.take (min (dl t) 3)).length ≤ 1 := fun h1 => by
      have : 10 ^ (t.take (min (dl t) 3)).length ≤ 10 ^ 1 := Nat.pow_le_pow_right (by omega) h1
      omega
    rw [List.length_take] at this
    omega
  · refine ⟨by simp only []; omega, by simp only []; omega, by simp only []; omega, fun h0 => by simp only []; omega⟩
theorem itoaK_nat (n : Nat) : itoaK (n : Int) = digsN 20 n := by
  unfold itoaK
  rw [if_neg (by omega), Int.toNat_natCast]
def pairL (m : Nat) : List UInt8 := 58 :: (digsN 20 (m / 10) ++ digsN 20 (m % 10))
theorem digsN_len : ∀ k u, (digsN k u).length ≤ k
  | 0, _ => by simp [digsN]
  | k + 1, u => by
    rw [digsN]
    split
    · simp
    · have := digsN_len k (u / 10); simp; omega
/-- The text of a time. -/
def clockB (a : Nat) : List UInt8 := digsN 20 (a / 3600) ++ (if a % 60 ≠ 0 then pairL (a / 60 % 60) ++ pairL (a % 60) else if a / 60 % 60 ≠ 0 then pairL (a / 60 % 60) else [])
def clockL (sec : Int) : List UInt8 × Bool := if -604799 ≤ sec ∧ sec ≤ 604799 then ((if sec < 0 then [45] else []) ++ clockB sec.natAbs, true) else ([], false)
theorem pairL_len (m : Nat) : (pairL m).length ≤ 41 := by
  have l1 := digsN_len 20 (m / 10)
  have l2 := digsN_len 20 (m % 10)
  simp [pairL]; omega
theorem hours_ok : ∀ h, h < 168 → ((digsN 20 h).all isDig = true ∧ valL (digsN 20 h) = h ∧ 1 ≤ (digsN 20 h).length ∧ (digsN 20 h).length ≤ 3) := by decide +kernel
theorem pairs_ok : ∀ m, m < 60 → pairL m = [58, UInt8.ofNat (48 + m / 10), UInt8.ofNat (48 + m % 10)] := by decide +kernel
theorem dl_app (a b : List UInt8) (ha : a.all isDig = true) (hb : ∀ c, b.head? = some c → isDig c = false) : dl (a ++ b) = a.length := by
  induction a with
  | nil =>
    cases b with
    | nil => rfl
    | cons c b => rw [List.nil_append, dl_cons, if_neg (by rw [hb c rfl]; simp)]; rfl
  | cons c a ih =>
    simp only [List.all_cons, Bool.and_eq_true] at ha
    rw [List.cons_append, dl_cons, if_pos ha.1, ih ha.2]; rfl
theorem sixty_pair (m : Nat) (h : m < 60) (r : List UInt8) : sixtyL (pairL m ++ r) = ((m : Int), r, true) := by
  rw [pairs_ok m h]
  show sixtyL (58 :: UInt8.ofNat (48 + m / 10) :: UInt8.ofNat (48 + m % 10) :: r) = _
  simp only [sixtyL]
  have h1 : (UInt8.ofNat (48 + m / 10)).toNat = 48 + m / 10 := by rw [UInt8.toNat_ofNat']; omega
  have h2 : (UInt8.ofNat (48 + m % 10)).toNat = 48 + m % 10 := by rw [UInt8.toNat_ofNat']; omega
  rw [if_pos ⟨trivial, by unfold isDig; rw [h1]; simp; omega, by unfold isDig; rw [h2]; simp; omega, by rw [h1]; omega⟩, h1, h2]
  simp only [Prod.mk.injEq, and_true]
  omega
theorem sixty_other (r : List UInt8) (h : r.head? ≠ some 58) : sixtyL r = (0, r, false) := by
  unfold sixtyL
  split
  · rename_i c a b r'
    rw [if_neg]
    rintro ⟨rfl, _⟩
    exact h rfl
  · rfl
/-- Behind the hours: nothing, or a colon. -/
theorem time_body (a : Nat) (h : a ≤ 604799) (tail : List UInt8) (ht : ∀ c, tail.head? = some c → isDig c = false ∧ c ≠ 58) (sg : Int) (l : List UInt8) (hl : signL l = (sg, clockB a ++ tail)) :
    timeL l = (sg * (a : Int), tail, true) := by
  obtain ⟨d1, d2, d3, d4⟩ := hours_ok (a / 3600) (by omega)
  have hcol : isDig 58 = false := by decide
  obtain ⟨rest, hrest, hhead⟩ : ∃ rest, clockB a ++ tail = digsN 20 (a / 3600) ++ rest ∧ (∀ c, rest.head? = some c → isDig c = false) ∧
      (a % 60 ≠ 0 → rest = pairL (a / 60 % 60) ++ (pairL (a % 60) ++ tail)) ∧ (a % 60 = 0 → a / 60 % 60 ≠ 0 → rest = pairL (a / 60 % 60) ++ tail) ∧ (a % 60 = 0 → a / 60 % 60 = 0 → rest = tail) := by
    unfold clockB
    by_cases hs : a % 60 = 0
    · rw [if_neg (by simpa using hs)]
      by_cases hm : a / 60 % 60 = 0
      · rw [if_neg (by simpa using hm)]
        exact ⟨tail, by simp, fun c hc => (ht c hc).1, fun h' => absurd hs h', fun _ h' => absurd hm h', fun _ _ => rfl⟩
      · rw [if_pos (by simpa using hm)]
        exact ⟨pairL (a / 60 % 60) ++ tail, by simp, fun c hc => by simp [pairL] at hc; rw [← hc]; exact hcol, fun h' => absurd hs h', fun _ _ => rfl, fun _ h' => absurd h' hm⟩
    · rw [if_pos (by simpa using hs)]
      exact ⟨pairL (a / 60 % 60) ++ (pairL (a % 60) ++ tail), by simp, fun c hc => by simp [pairL] at hc; rw [← hc]; exact hcol, fun _ => rfl, fun h' => absurd h' hs, fun h' => absurd h' hs⟩
  have hdl : dl (digsN 20 (a / 3600) ++ rest) = (digsN 20 (a / 3600)).length := dl_app _ _ d1 hhead.1
  have hmin : min (dl (digsN 20 (a / 3600) ++ rest)) 3 = (digsN 20 (a / 3600)).length := by rw [hdl]; omega
  have hhour : hourL (digsN 20 (a / 3600) ++ rest) = (a / 3600, (digsN 20 (a / 3600)).length) := by
    unfold hourL
    rw [hmin, List.take_left, d2, if_neg (by omega)]
  unfold timeL
  rw [hl, hrest]
  simp only []
  rw [hhour]
  simp only []
  rw [if_neg (by omega), List.drop_left]
  by_cases hs : a % 60 = 0
  · by_cases hm : a / 60 % 60 = 0
    · rw [hhead.2.2.2 hs hm, sixty_other _ (fun e => (ht 58 e).2 rfl)]
      simp only [moreL, Prod.mk.injEq, and_true, Bool.false_eq_true, if_false]
      congr 1
      omega
    · rw [hhead.2.2.1 hs hm, sixty_pair _ (by omega)]
      simp only [moreL, if_true]
      rw [sixty_other _ (fun e => (ht 58 e).2 rfl)]
      simp only [Prod.mk.injEq, and_true]
      congr 1
      omega
  · rw [hhead.2.1 hs, sixty_pair _ (by omega)]
    simp only [moreL, if_true]
    rw [sixty_pair _ (by omega)]
    simp only [Prod.mk.injEq, and_true]
    congr 1
    omega
theorem clockB_head (a : Nat) (h : a ≤ 604799) (tail : List UInt8) : ∃ c r, clockB a ++ tail = c :: r ∧ isDig c = true := by
  obtain ⟨d1, d2, d3, d4⟩ := hours_ok (a / 3600) (by omega)
  unfold clockB
  match hq : digsN 20 (a / 3600), d3 with
  | c :: q, _ =>
    rw [hq] at d1
    simp only [List.all_cons, Bool.and_eq_true] at d1
    exact ⟨c, _, rfl, d1.1⟩
theorem time_clock (sec : Int) (h : -604799 ≤ sec ∧ sec ≤ 604799) (tail : List UInt8) (ht : ∀ c, tail.head? = some c → isDig c = false ∧ c ≠ 58) : timeL ((clockL sec).1 ++ tail) = (sec, tail, true) := by
  unfold clockL
  rw [if_pos h]
  by_cases h0 : sec < 0
  · simp only [if_pos h0]
    rw [time_body sec.natAbs (by omega) tail ht (-1) _ (by simp [signL])]
    congr 1
    omega
  · simp only [if_neg h0, List.nil_append]
    obtain ⟨c, r, e, hc⟩ := clockB_head sec.natAbs (by omega) tail
    have hc' : c ≠ 45 ∧ c ≠ 43 := by constructor <;> (rintro rfl; exact absurd hc (by decide))
    rw [time_body sec.natAbs (by omega) tail ht 1 _ (by rw [e]; simp [signL, hc'])]
    congr 1
    omega

/-! ### What is behind a time is an end of the text -/
theorem sixty_drop (l : List UInt8) : ∃ j, j ≤ l.length ∧ (sixtyL l).2.1 = l.drop j := by
  unfold sixtyL
  split
  · split
    · exact ⟨3, by simp, rfl⟩
    · exact ⟨0, by simp, rfl⟩
  · exact ⟨0, by simp, rfl⟩
theorem sign_drop (l : List UInt8) : ∃ j, j ≤ l.length ∧ (signL l).2 = l.drop j ∧ ((signL l).1 = 1 ∨ (signL l).1 = -1) := by
  unfold signL
  split
  · exact ⟨0, by simp, rfl, .inl rfl⟩
  · split
    · exact ⟨1, by simp, rfl, .inr rfl⟩
    · split
      · exact ⟨1, by simp, rfl, .inl rfl⟩
      · exact ⟨0, by simp, rfl, .inl rfl⟩
theorem time_drop (l : List UInt8) : ∃ j, j ≤ l.length ∧ (timeL l).2.1 = l.drop j ∧ ((timeL l).2.2 = true ↔ 0 < j) ∧ -604799 ≤ (timeL l).1 ∧ (timeL l).1 ≤ 604799 ∧ ((timeL l).2.2 = false → (timeL l).1 = 0 ∧ j = 0) := by
  obtain ⟨j0, h0, e0, hs⟩ := sign_drop l
  unfold timeL
  by_cases hd : dl (signL l).2 = 0
  · rw [if_pos hd]
    exact ⟨0, by omega, by simp, by simp, by simp, by simp, by simp⟩
  · rw [if_neg hd]
    obtain ⟨b1, b2, b3, b4⟩ := hour_bd (signL l).2
    have b4' := b4 hd
    have hdl := dl_le (signL l).2
    obtain ⟨j1, h1, e1⟩ := sixty_drop ((signL l).2.drop (hourL (signL l).2).2)
    have s1 := sixty_bd ((signL l).2.drop (hourL (signL l).2).2)
    have key : ∃ j2, j2 ≤ (sixtyL ((signL l).2.drop (hourL (signL l).2).2)).2.1.length ∧ (moreL (sixtyL ((signL l).2.drop (hourL (signL l).2).2))).2.1 = (sixtyL ((signL l).2.drop (hourL (signL l).2).2)).2.1.drop j2 ∧
        0 ≤ (moreL (sixtyL ((signL l).2.drop (hourL (signL l).2).2))).1 ∧ (moreL (sixtyL ((signL l).2.drop (hourL (signL l).2).2))).1 ≤ 59 := by
      unfold moreL
      split
      · obtain ⟨j2, h2, e2⟩ := sixty_drop (sixtyL ((signL l).2.drop (hourL (signL l).2).2)).2.1
        exact ⟨j2, h2, e2, sixty_bd _⟩
      · exact ⟨0, by omega, rfl, by simp, by simp⟩
    obtain ⟨j2, h2, e2, hb1, hb2⟩ := key
    rw [e2, e1, e0, List.drop_drop, List.drop_drop, List.drop_drop]
    rw [e1] at h2
    rw [e0] at h1 h2 hdl b2
    simp only [List.length_drop] at h1 h2 hdl
    rw [e0] at b4' b3 s1 hb1 hb2
    refine ⟨_, ?_, rfl, ?_, ?_⟩
    · omega
    · simp; omega
    · generalize (sixtyL (List.drop (hourL (List.drop j0 l)).2 (List.drop j0 l))).1 = x at *
      generalize (moreL (sixtyL (List.drop (hourL (List.drop j0 l)).2 (List.drop j0 l)))).1 = y at *
      rw [e0] at b1
      generalize (hourL (List.drop j0 l)).1 = v at *
      rcases hs with hs | hs <;> rw [hs] <;> refine ⟨?_, ?_, by simp⟩ <;> omega

end Go.Proofs.YtoiiblhbojhogaaDoor.Pl
end
section
set_option linter.unusedVariables false
set_option linter.unusedSimpArgs false
namespace Go.Proofs.YtoiiblhbojhogaaDoor.Pl
open Go
set_option linter.unusedVariables false
set_option linter.unusedSimpArgs false

/-- A leap year. -/
def leapY (y : Int) : Bool := decide (y % 4 = 0 ∧ (y % 100 ≠ 0 ∨ y % 400 = 0))
/-- The number of a year's first day. -/
def fst (y : Int) : Int := 365 * (y - 1) + (y - 1) / 4 - (y - 1) / 100 + (y - 1) / 400 - 719162
/-- How many days of a common year lie ahead of a month. -/
def cum0 (m : Int) : Int := if m = 1 then 0 else if m = 2 then 31 else if m = 3 then 59 else if m = 4 then 90 else if m = 5 then 120 else if m = 6 then 151 else if m = 7 then 181 else if m = 8 then 212 else if m = 9 then 243 else if m = 10 then 273 else if m = 11 then 304 else if m = 12 then 334 else 365
def cum (y m : Int) : Int := cum0 m + if 2 < m ∧ leapY y = true then 1 else 0
def dim (y m : Int) : Int := if m = 2 then (if leapY y = true then 29 else 28) else if m = 4 then 30 else if m = 6 then 30 else if m = 9 then 30 else if m = 11 then 30 else 31
/-- The number of a date. -/
def num (y m d : Int) : Int := fst y + cum y m + d - 1
/-- A date. -/
def Vld (y m d : Int) : Prop := 1 ≤ y ∧ y ≤ 9999 ∧ 1 ≤ m ∧ m ≤ 12 ∧ 1 ≤ d ∧ d ≤ dim y m

theorem leapY_iff (y : Int) : leapY y = true ↔ (y % 4 = 0 ∧ (y % 100 ≠ 0 ∨ y % 400 = 0)) := by unfold leapY; exact decide_eq_true_iff
theorem month_cases {m : Int} (h1 : 1 ≤ m) (h2 : m ≤ 12) : m = 1 ∨ m = 2 ∨ m = 3 ∨ m = 4 ∨ m = 5 ∨ m = 6 ∨ m = 7 ∨ m = 8 ∨ m = 9 ∨ m = 10 ∨ m = 11 ∨ m = 12 := by omega
theorem dim_bd (y m : Int) : 28 ≤ dim y m ∧ dim y m ≤ 31 := by unfold dim; repeat' split <;> omega
theorem fst_succ (y : Int) : fst (y + 1) = fst y + 365 + if leapY y = true then 1 else 0 := by
  have := leapY_iff y
  unfold fst
  by_cases h : leapY y = true
  · rw [if_pos h]; have := this.1 h; omega
  · rw [if_neg h]
    have h' : ¬ (y % 4 = 0 ∧ (y % 100 ≠ 0 ∨ y % 400 = 0)) := fun z => h (this.2 z)
    omega
theorem cum_succ (y m : Int) (h1 : 1 ≤ m) (h2 : m ≤ 12) : cum y m + dim y m = if m = 12 then 365 + (if leapY y = true then 1 else 0) else cum y (m + 1) := by
  rcases month_cases h1 h2 with rfl | rfl | rfl | rfl | rfl | rfl | rfl | rfl | rfl | rfl | rfl | rfl <;>
    cases hl : leapY y <;> simp [cum, cum0, dim, hl]
theorem num_bd {y m d : Int} (h : Vld y m d) : fst y ≤ num y m d ∧ num y m d < fst (y + 1) := by
  obtain ⟨_, _, h1, h2, h3, h4⟩ := h
  rw [fst_succ]
  unfold num
  rcases month_cases h1 h2 with rfl | rfl | rfl | rfl | rfl | rfl | rfl | rfl | rfl | rfl | rfl | rfl <;>
    cases hl : leapY y <;> simp [cum, cum0, dim, hl] at h4 ⊢ <;> omega
theorem fst_bd {y : Int} (h1 : 1 ≤ y) (h2 : y ≤ 9999) : -719162 ≤ fst y ∧ fst (y + 1) ≤ 2932897 := by unfold fst; omega
theorem fst_le {y z : Int} (h : y ≤ z) : fst y ≤ fst z := by unfold fst; omega
theorem num_range {y m d : Int} (h : Vld y m d) : -719162 ≤ num y m d ∧ num y m d ≤ 2932896 := by
  have := num_bd h
  have := fst_bd h.1 h.2.1
  omega

/-! ### Years that begin with March -/
/-- A date's year and month, so counted. -/
def sy (y m : Int) : Int := if m < 3 then y - 1 else y
def sm (m : Int) : Int := if m < 3 then m + 12 else m
/-- The program's own formula. -/
def numP (y m d : Int) : Int := 146097 * (sy y m / 400) + 365 * (sy y m % 400) + (sy y m % 400) / 4 - (sy y m % 400) / 100 + ((153 * (sm m - 3) + 2) / 5 + d - 1) - 719468
theorem numP_eq {y m d : Int} (h1 : 1 ≤ m) (h2 : m ≤ 12) : numP y m d = num y m d := by
  have hl := leapY_iff y
  have key : ∀ b : Bool, leapY y = b → numP y m d = num y m d := by
    intro b hb
    cases b with
    | true =>
      have hl' := hl.1 hb
      rcases month_cases h1 h2 with rfl | rfl | rfl | rfl | rfl | rfl | rfl | rfl | rfl | rfl | rfl | rfl <;>
        simp [numP, num, fst, cum, cum0, sy, sm, hb] <;> omega
    | false =>
      have hl' : ¬ (y % 4 = 0 ∧ (y % 100 ≠ 0 ∨ y % 400 = 0)) := fun z => by rw [hl.2 z] at hb; cases hb
      rcases month_cases h1 h2 with rfl | rfl | rfl | rfl | rfl | rfl | rfl | rfl | rfl | rfl | rfl | rfl <;>
        simp [numP, num, fst, cum, cum0, sy, sm, hb] <;> omega
  exact key _ rfl

/-- The first day of March-year b of an era. -/
def st (b : Int) : Int := 365 * b + b / 4 - b / 100
def gy (o : Int) : Int := o - o / 1460 + o / 36524 - o / 146096
theorem gy_mono {a b : Int} (h0 : 0 ≤ a) (h : a ≤ b) (hb : b ≤ 146096) : gy a ≤ gy b := by unfold gy; omega
theorem ends : ∀ n : Nat, n < 400 → (gy (st n) / 365 = n ∧ gy (st (n + 1) - (if n = 399 then 0 else 1)) / 365 = n) := by decide +kernel
theorem st_400 : st 399 + 365 = 146096 := by decide
/-- The year of a day of an era. -/
theorem year_of {o b : Int} (h0 : 0 ≤ b) (h1 : b < 400) (h2 : st b ≤ o) (h3 : o < st (b + 1) ∨ (b = 399 ∧ o ≤ 146096)) : gy o / 365 = b := by
  obtain ⟨n, rfl⟩ := Int.eq_ofNat_of_zero_le h0
  obtain ⟨e1, e2⟩ := ends n (by omega)
  have hs0 : 0 ≤ st n := by unfold st; omega
  have hs1 : st (n + 1) ≤ 146097 := by unfold st; omega
  by_cases hn : n = 399
  · subst hn
    have hm : st ((399 : Nat) + 1) = 146096 := by decide
    rw [if_pos rfl, hm] at e2
    have ho : o ≤ 146096 := by
      rcases h3 with h3 | h3
      · have : ((399 : Nat) : Int) + 1 = 400 := rfl
        rw [this] at h3; have : st 400 = 146096 := by decide
        omega
      · exact h3.2
    have g1 := gy_mono hs0 h2 ho
    have g2 := gy_mono (by omega : 0 ≤ o) ho (Int.le_refl _)
    simp only [Int.sub_zero] at e2
    omega
  · rw [if_neg hn] at e2
    have ho : o ≤ st (n + 1) - 1 := by
      rcases h3 with h3 | h3
      · omega
      · omega
    have g1 := gy_mono hs0 h2 (by omega)
    have g2 := gy_mono (by omega : 0 ≤ o) ho (by omega)
    omega

/-- The program's own date of a number. -/
def era (n : Int) : Int := (n + 719468) / 146097
def ofE (n : Int) : Int := (n + 719468) % 146097
def yrs (n : Int) : Int := gy (ofE n) / 365
def doy (n : Int) : Int := ofE n - st (yrs n)
def mon (n : Int) : Int := (5 * doy n + 2) / 153
def dayP (n : Int) : Int := doy n - (153 * mon n + 2) / 5 + 1
def monP (n : Int) : Int := if mon n + 3 > 12 then mon n + 3 - 12 else mon n + 3
def yearP (n : Int) : Int := 400 * era n + (if mon n + 3 > 12 then yrs n + 1 else yrs n)

theorem date_num' {y m d : Int} (h : Vld y m d) : (0 ≤ doy (num y m d) ∧ doy (num y m d) ≤ 365) ∧ yearP (num y m d) = y ∧ monP (num y m d) = m ∧ dayP (num y m d) = d := by
  obtain ⟨a1, a2, h1, h2, h3, h4⟩ := h
  have hl := leapY_iff y
  rw [← numP_eq h1 h2]
  have hb : 0 ≤ sy y m % 400 ∧ sy y m % 400 < 400 := by omega
  have hdoy : 0 ≤ (153 * (sm m - 3) + 2) / 5 + d - 1 ∧ st (sy y m % 400) + ((153 * (sm m - 3) + 2) / 5 + d - 1) ≤ 146096 ∧
      (st (sy y m % 400) + ((153 * (sm m - 3) + 2) / 5 + d - 1) < st (sy y m % 400 + 1) ∨ sy y m % 400 = 399) := by
    unfold st
    cases hb' : leapY y with
    | true =>
      have hl' := hl.1 hb'
      rcases month_cases h1 h2 with rfl | rfl | rfl | rfl | rfl | rfl | rfl | rfl | rfl | rfl | rfl | rfl <;>
        simp [sy, sm, dim, hb'] at h4 ⊢ <;> omega
    | false =>
      have hl' : ¬ (y % 4 = 0 ∧ (y % 100 ≠ 0 ∨ y % 400 = 0)) := fun z => by rw [hl.2 z] at hb'; cases hb'
      rcases month_cases h1 h2 with rfl | rfl | rfl | rfl | rfl | rfl | rfl | rfl | rfl | rfl | rfl | rfl <;>
        simp [sy, sm, dim, hb'] at h4 ⊢ <;> omega
  have hst0 : 0 ≤ st (sy y m % 400) := by unfold st; omega
  have hN : numP y m d + 719468 = 146097 * (sy y m / 400) + (st (sy y m % 400) + ((153 * (sm m - 3) + 2) / 5 + d - 1)) := by unfold numP st; omega
  have hera : era (numP y m d) = sy y m / 400 := by unfold era; omega
  have hof : ofE (numP y m d) = st (sy y m % 400) + ((153 * (sm m - 3) + 2) / 5 + d - 1) := by unfold ofE; omega
  have hyrs : yrs (numP y m d) = sy y m % 400 := by
    unfold yrs
    rw [hof]
    refine year_of hb.1 hb.2 (by omega) ?_
    rcases hdoy.2.2 with h | h
    · exact .inl h
    · exact .inr ⟨h, hdoy.2.1⟩
  have hdy : doy (numP y m d) = (153 * (sm m - 3) + 2) / 5 + d - 1 := by unfold doy; rw [hof, hyrs]; omega
  have hdd := dim_bd y m
  have hmon : mon (numP y m d) = sm m - 3 := by
    unfold mon
    rw [hdy]
    rcases month_cases h1 h2 with rfl | rfl | rfl | rfl | rfl | rfl | rfl | rfl | rfl | rfl | rfl | rfl <;>
      simp [sm, dim] at h4 ⊢ <;> omega
  refine ⟨?_, ?_, ?_, ?_⟩
  · rw [hdy]
    rcases month_cases h1 h2 with rfl | rfl | rfl | rfl | rfl | rfl | rfl | rfl | rfl | rfl | rfl | rfl <;>
      simp [sm, dim] at h4 ⊢ <;> omega
  · unfold yearP
    rw [hera, hyrs, hmon]
    rcases month_cases h1 h2 with rfl | rfl | rfl | rfl | rfl | rfl | rfl | rfl | rfl | rfl | rfl | rfl <;>
      simp [sm, sy] <;> omega
  · unfold monP
    rw [hmon]
    rcases month_cases h1 h2 with rfl | rfl | rfl | rfl | rfl | rfl | rfl | rfl | rfl | rfl | rfl | rfl <;> simp [sm]
  · unfold dayP
    rw [hdy, hmon]
    omega
theorem date_num {y m d : Int} (h : Vld y m d) : yearP (num y m d) = y ∧ monP (num y m d) = m ∧ dayP (num y m d) = d := (date_num' h).2

/-! ### Each number is a date's -/
theorem year_ex (n : Int) (h0 : fst 1 ≤ n) : ∀ k : Nat, n < fst (1 + k) → ∃ y : Int, 1 ≤ y ∧ y ≤ k ∧ fst y ≤ n ∧ n < fst (y + 1)
  | 0, h => by simp at h; omega
  | k + 1, h => by
    by_cases h1 : n < fst (1 + k)
    · obtain ⟨y, a, b, c, d⟩ := year_ex n h0 k h1
      exact ⟨y, a, by omega, c, d⟩
    · exact ⟨1 + k, by omega, by omega, by omega, by have e : ((k + 1 : Nat) : Int) = (k : Int) + 1 := rfl; rw [e] at h; rw [Int.add_assoc]; exact h⟩
theorem cum_mono (y m : Int) (h1 : 1 ≤ m) (h2 : m < 12) : cum y m + 28 ≤ cum y (m + 1) := by
  have := cum_succ y m h1 (by omega)
  rw [if_neg (by omega)] at this
  have := dim_bd y m
  omega
theorem month_ex (y r : Int) (h0 : 0 ≤ r) : ∀ k : Nat, k < 12 → r < cum y (1 + k) → ∃ m : Int, 1 ≤ m ∧ m ≤ k ∧ cum y m ≤ r ∧ r < cum y (m + 1)
  | 0, _, h => by simp [cum, cum0] at h; omega
  | k + 1, hk, h => by
    by_cases h1 : r < cum y (1 + k)
    · obtain ⟨m, a, b, c, d⟩ := month_ex y r h0 k (by omega) h1
      exact ⟨m, a, by omega, c, d⟩
    · exact ⟨1 + k, by omega, by omega, by omega, by have e : ((k + 1 : Nat) : Int) = (k : Int) + 1 := rfl; rw [e] at h; rw [Int.add_assoc]; exact h⟩
theorem date_ex {n : Int} (h0 : -719162 ≤ n) (h1 : n ≤ 2932896) : ∃ y m d, Vld y m d ∧ num y m d = n := by
  obtain ⟨y, a, b, c, e⟩ := year_ex n (by have : fst 1 = -719162 := by decide
                                          omega) 9999 (by have : fst (1 + (9999 : Nat)) = 2932897 := by decide
                                                          omega)
  rw [fst_succ] at e
  by_cases h : n - fst y < cum y 12
  · obtain ⟨m, a', b', c', e'⟩ := month_ex y (n - fst y) (by omega) 11 (by omega) h
    have hs := cum_succ y m a' (by omega)
    rw [if_neg (by omega)] at hs
    exact ⟨y, m, n - fst y - cum y m + 1, ⟨a, by omega, a', by omega, by omega, by omega⟩, by unfold num; omega⟩
  · have hs := cum_succ y 12 (by omega) (by omega)
    rw [if_pos rfl] at hs
    exact ⟨y, 12, n - fst y - cum y 12 + 1, ⟨a, by omega, by omega, by omega, by omega, by omega⟩, by unfold num; omega⟩
theorem num_date {n : Int} (h0 : -719162 ≤ n) (h1 : n ≤ 2932896) : Vld (yearP n) (monP n) (dayP n) ∧ num (yearP n) (monP n) (dayP n) = n := by
  obtain ⟨y, m, d, hv, rfl⟩ := date_ex h0 h1
  obtain ⟨e1, e2, e3⟩ := date_num hv
  rw [e1, e2, e3]
  exact ⟨hv, rfl⟩
theorem doy_bd {n : Int} (h0 : -719162 ≤ n) (h1 : n ≤ 2932896) : 0 ≤ doy n ∧ doy n ≤ 365 := by
  obtain ⟨y, m, d, hv, rfl⟩ := date_ex h0 h1
  exact (date_num' hv).1
theorem num_inj {y m d y' m' d' : Int} (h : Vld y m d) (h' : Vld y' m' d') (e : num y m d = num y' m' d') : y = y' ∧ m = m' ∧ d = d' := by
  have a := date_num h
  have b := date_num h'
  rw [e] at a
  exact ⟨a.1.symm.trans b.1, a.2.1.symm.trans b.2.1, a.2.2.symm.trans b.2.2⟩
/-- A day's place in the week, from Sunday on. -/
def wk (n : Int) : Int := (n + 4) % 7

end Go.Proofs.YtoiiblhbojhogaaDoor.Pl
end
section
set_option linter.unusedVariables false
set_option linter.unusedSimpArgs false
namespace Go.Proofs.YtoiiblhbojhogaaDoor.Pl
open Go
set_option linter.unusedVariables false
set_option linter.unusedSimpArgs false

def rightR (K A B C X : Int) : Bool :=
  decide ((-604799 ≤ X ∧ X ≤ 604799) ∧ ((K = 0 ∧ 1 ≤ A ∧ A ≤ 12 ∧ 1 ≤ B ∧ B ≤ 5 ∧ 0 ≤ C ∧ C ≤ 6) ∨ (K = 1 ∧ 1 ≤ A ∧ A ≤ 365 ∧ B = 0 ∧ C = 0) ∨ (K = 2 ∧ 0 ≤ A ∧ A ≤ 365 ∧ B = 0 ∧ C = 0)))
theorem right_iff (K A B C X : Int) : rightR K A B C X = true ↔ ((-604799 ≤ X ∧ X ≤ 604799) ∧ ((K = 0 ∧ 1 ≤ A ∧ A ≤ 12 ∧ 1 ≤ B ∧ B ≤ 5 ∧ 0 ≤ C ∧ C ≤ 6) ∨ (K = 1 ∧ 1 ≤ A ∧ A ≤ 365 ∧ B = 0 ∧ C = 0) ∨ (K = 2 ∧ 0 ≤ A ∧ A ≤ 365 ∧ B = 0 ∧ C = 0))) := by
  unfold rightR; exact decide_eq_true_iff
/-- The place of a rule's day in its month, from 0 on. -/
def offW (A B C y : Int) : Int := let k := (C - wk (num y A 1) + 7) % 7 + 7 * (B - 1); if k ≥ dim y A then k - 7 else k
def ruleDay (K A B C y : Int) : Int := if K = 2 then fst y + A else if K = 1 then (if A ≤ 59 ∨ leapY y = false then fst y - 1 + A else fst y + A) else num y A 1 + offW A B C y
theorem num_first (y : Int) : num y 1 1 = fst y := by unfold num cum cum0; simp
theorem dim_jan (y : Int) : dim y 1 = 31 := rfl
theorem off_bd {A B C y : Int} (h1 : 1 ≤ B) (h2 : B ≤ 5) : 0 ≤ offW A B C y ∧ offW A B C y < dim y A ∧ offW A B C y % 7 = (C - wk (num y A 1) + 7) % 7 := by
  have hd := dim_bd y A
  have hw : 0 ≤ wk (num y A 1) ∧ wk (num y A 1) < 7 := by unfold wk; omega
  unfold offW
  simp only []
  split <;> omega
theorem ruleDay_bd {K A B C X y : Int} (hy : 1 ≤ y ∧ y ≤ 9999) (hr : rightR K A B C X = true) : fst y ≤ ruleDay K A B C y ∧ ruleDay K A B C y ≤ fst y + 365 := by
  have hr' := (right_iff K A B C X).1 hr
  unfold ruleDay
  split
  · omega
  · split
    · split <;> omega
    · have hK : K = 0 ∧ 1 ≤ A ∧ A ≤ 12 ∧ 1 ≤ B ∧ B ≤ 5 ∧ 0 ≤ C ∧ C ≤ 6 := by omega
      obtain ⟨o1, o2, _⟩ := off_bd (A := A) (C := C) (y := y) hK.2.2.2.1 hK.2.2.2.2.1
      have hv : Vld y A (offW A B C y + 1) := ⟨hy.1, hy.2, hK.2.1, hK.2.2.1, by omega, by omega⟩
      have := num_bd hv
      rw [fst_succ] at this
      have e : num y A (offW A B C y + 1) = num y A 1 + offW A B C y := by unfold num; omega
      rw [e] at this
      split at this <;> omega
def cutP (c : UInt8) (l : List UInt8) : List UInt8 × Bool := if l.head? = some c then (l.tail, true) else (l, false)
theorem cut_drop (c : UInt8) (l : List UInt8) : ∃ j, j ≤ l.length ∧ (cutP c l).1 = l.drop j := by
  unfold cutP
  split
  · cases l with
    | nil => rename_i h; simp at h
    | cons a r => exact ⟨1, by simp, rfl⟩
  · exact ⟨0, by omega, rfl⟩

/-- A number of so many digits at most. -/
def numberL (l : List UInt8) (m : Nat) : Int × List UInt8 × Bool := if dl l = 0 ∨ m < dl l then (0, l, false) else ((valL (l.take (dl l)) : Int), l.drop (dl l), true)
theorem numberL_drop (l : List UInt8) (m : Nat) : ∃ j, j ≤ l.length ∧ (numberL l m).2.1 = l.drop j ∧ ((numberL l m).2.2 = true → 0 < j) := by
  unfold numberL
  split
  · exact ⟨0, by omega, rfl, by simp⟩
  · exact ⟨dl l, dl_le l, rfl, fun _ => by omega⟩
theorem numberL_len (l : List UInt8) (m : Nat) : (numberL l m).2.1.length ≤ l.length := by
  obtain ⟨j, _, e, _⟩ := numberL_drop l m
  rw [e, List.length_drop]; omega
theorem cutL_len (c : UInt8) (l : List UInt8) : (cutP c l).1.length ≤ l.length := by
  obtain ⟨j, _, e⟩ := cut_drop c l
  rw [e, List.length_drop]; omega
theorem numberL_bd (l : List UInt8) (m : Nat) : 0 ≤ (numberL l m).1 ∧ ((numberL l m).1 : Int) < ((10 ^ m : Nat) : Int) := by
  unfold numberL
  have h1 : 0 < 10 ^ m := Nat.pos_of_ne_zero (by simp)
  split
  · simp only []; omega
  · rename_i h
    have hv := valL_lt _ (take_dl_dig l _ (Nat.le_refl _))
    have h2 : 10 ^ (l.take (dl l)).length ≤ 10 ^ m := Nat.pow_le_pow_right (by omega) (by rw [List.length_take]; omega)
    simp only []; omega

def weekL (l : List UInt8) : Int × Int × Int × List UInt8 × Bool :=
  ((numberL l 2).1, (numberL (cutP 46 (numberL l 2).2.1).1 1).1, (numberL (cutP 46 (numberL (cutP 46 (numberL l 2).2.1).1 1).2.1).1 1).1,
    (numberL (cutP 46 (numberL (cutP 46 (numberL l 2).2.1).1 1).2.1).1 1).2.1,
    (numberL l 2).2.2 && (numberL (cutP 46 (numberL l 2).2.1).1 1).2.2 && (numberL (cutP 46 (numberL (cutP 46 (numberL l 2).2.1).1 1).2.1).1 1).2.2 && (cutP 46 (numberL l 2).2.1).2 && (cutP 46 (numberL (cutP 46 (numberL l 2).2.1).1 1).2.1).2)
theorem weekL_drop (l : List UInt8) : ∃ j, j ≤ l.length ∧ (weekL l).2.2.2.1 = l.drop j ∧ ((weekL l).2.2.2.2 = true → 0 < j) := by
  unfold weekL
  obtain ⟨j1, h1, e1, p1⟩ := numberL_drop l 2
  obtain ⟨j2, h2, e2⟩ := cut_drop 46 (numberL l 2).2.1
  obtain ⟨j3, h3, e3, _⟩ := numberL_drop (cutP 46 (numberL l 2).2.1).1 1
  obtain ⟨j4, h4, e4⟩ := cut_drop 46 (numberL (cutP 46 (numberL l 2).2.1).1 1).2.1
  obtain ⟨j5, h5, e5, _⟩ := numberL_drop (cutP 46 (numberL (cutP 46 (numberL l 2).2.1).1 1).2.1).1 1
  refine ⟨j1 + j2 + j3 + j4 + j5, ?_, ?_, ?_⟩
  · rw [e4, List.length_drop, e3, List.length_drop, e2, List.length_drop, e1, List.length_drop] at h5
    rw [e3, List.length_drop, e2, List.length_drop, e1, List.length_drop] at h4
    rw [e2, List.length_drop, e1, List.length_drop] at h3
    rw [e1, List.length_drop] at h2
    omega
  · simp only []
    rw [e5, e4, e3, e2, e1]
    simp only [List.drop_drop]
  · intro h
    simp only [Bool.and_eq_true] at h
    have := p1 h.1.1.1.1
    omega

/-- A rule without its time. -/
def dateL (l : List UInt8) : Int × Int × Int × Int × List UInt8 × Bool :=
  if l.head? = some 77 then (0, weekL l.tail) else if l.head? = some 74 then (1, (numberL l.tail 3).1, 0, 0, (numberL l.tail 3).2) else (2, (numberL l 3).1, 0, 0, (numberL l 3).2)
theorem dateL_drop (l : List UInt8) : ∃ j, j ≤ l.length ∧ (dateL l).2.2.2.2.1 = l.drop j ∧ ((dateL l).2.2.2.2.2 = true → 0 < j) := by
  unfold dateL
  by_cases h : l.head? = some 77
  · rw [if_pos h]
    obtain ⟨a, r, rfl⟩ : ∃ a r, l = a :: r := by cases l with | nil => simp at h | cons a r => exact ⟨a, r, rfl⟩
    obtain ⟨j, hj, e, _⟩ := weekL_drop r
    exact ⟨j + 1, by simp; omega, e, fun _ => by omega⟩
  · rw [if_neg h]
    by_cases h' : l.head? = some 74
    · rw [if_pos h']
      obtain ⟨a, r, rfl⟩ : ∃ a r, l = a :: r := by cases l with | nil => simp at h' | cons a r => exact ⟨a, r, rfl⟩
      obtain ⟨j, hj, e, _⟩ := numberL_drop r 3
      exact ⟨j + 1, by simp; omega, e, fun _ => by omega⟩
    · rw [if_neg h']
      exact numberL_drop l 3

/-- A rule. -/
def parseL (l : List UInt8) : Int × Int × Int × Int × Int × List UInt8 × Bool :=
  if (dateL l).2.2.2.2.2 = true then
    (if (dateL l).2.2.2.2.1.head? = some 47 then
      (if (timeL (dateL l).2.2.2.2.1.tail).2.2 = true ∧ rightR (dateL l).1 (dateL l).2.1 (dateL l).2.2.1 (dateL l).2.2.2.1 (timeL (dateL l).2.2.2.2.1.tail).1 = true then
        ((dateL l).1, (dateL l).2.1, (dateL l).2.2.1, (dateL l).2.2.2.1, (timeL (dateL l).2.2.2.2.1.tail).1, (timeL (dateL l).2.2.2.2.1.tail).2.1, true) else (0, 0, 0, 0, 0, l, false))
    else if rightR (dateL l).1 (dateL l).2.1 (dateL l).2.2.1 (dateL l).2.2.2.1 7200 = true then
      ((dateL l).1, (dateL l).2.1, (dateL l).2.2.1, (dateL l).2.2.2.1, 7200, (dateL l).2.2.2.2.1, true) else (0, 0, 0, 0, 0, l, false))
  else (0, 0, 0, 0, 0, l, false)
theorem parse_good (l : List UInt8) (h : (parseL l).2.2.2.2.2.2 = true) :
    rightR (parseL l).1 (parseL l).2.1 (parseL l).2.2.1 (parseL l).2.2.2.1 (parseL l).2.2.2.2.1 = true ∧ ∃ j, 0 < j ∧ j ≤ l.length ∧ (parseL l).2.2.2.2.2.1 = l.drop j := by
  obtain ⟨j, hj, e, hp⟩ := dateL_drop l
  revert h
  unfold parseL
  by_cases hok : (dateL l).2.2.2.2.2 = true
  · have hp := hp hok
    rw [if_pos hok]
    by_cases hc : (dateL l).2.2.2.2.1.head? = some 47
    · rw [if_pos hc]
      by_cases hR : (timeL (dateL l).2.2.2.2.1.tail).2.2 = true ∧ rightR (dateL l).1 (dateL l).2.1 (dateL l).2.2.1 (dateL l).2.2.2.1 (timeL (dateL l).2.2.2.2.1.tail).1 = true
      · rw [if_pos hR]
        intro _
        obtain ⟨i, hi, ei, _⟩ := time_drop (dateL l).2.2.2.2.1.tail
        refine ⟨hR.2, j + 1 + i, by omega, ?_, ?_⟩
        · rw [List.length_tail, e, List.length_drop] at hi
          have : (dateL l).2.2.2.2.1.length ≠ 0 := by intro h0; rw [List.eq_nil_of_length_eq_zero h0] at hc; simp at hc
          rw [e, List.length_drop] at this
          omega
        · simp only []
          rw [ei, e, ← List.drop_one, List.drop_drop, List.drop_drop]
          congr 1; omega
      · rw [if_neg hR]; intro h; simp at h
    · rw [if_neg hc]
      by_cases hR : rightR (dateL l).1 (dateL l).2.1 (dateL l).2.2.1 (dateL l).2.2.2.1 7200 = true
      · rw [if_pos hR]
        intro _
        exact ⟨hR, j, hp, hj, e⟩
      · rw [if_neg hR]; intro h; simp at h
  · rw [if_neg hok]; intro h; simp at h
theorem parse_bad (l : List UInt8) (h : (parseL l).2.2.2.2.2.2 = false) : parseL l = (0, 0, 0, 0, 0, l, false) := by
  revert h
  unfold parseL
  split
  · split
    · split
      · intro h; simp at h
      · intro _; rfl
    · split
      · intro h; simp at h
      · intro _; rfl
  · intro _; rfl

/-- A rule's text. -/
def headL (K A B C : Int) : List UInt8 := if K = 0 then 77 :: (itoaK A ++ 46 :: (itoaK B ++ 46 :: itoaK C)) else if K = 1 then 74 :: itoaK A else itoaK A
def tailL (X : Int) : List UInt8 := if X = 7200 then [] else 47 :: (clockL X).1
def textL (K A B C X : Int) : List UInt8 × Bool := if rightR K A B C X = true then (headL K A B C ++ tailL X, true) else ([], false)
theorem clockL_len (X : Int) : (clockL X).1.length ≤ 200 := by
  unfold clockL
  split
  · have l1 := digsN_len 20 (X.natAbs / 3600)
    have l2 := pairL_len (X.natAbs / 60 % 60)
    have l3 := pairL_len (X.natAbs % 60)
    have : (clockB X.natAbs).length ≤ 102 := by
      unfold clockB
      rw [List.length_append]
      split
      · rw [List.length_append]; omega
      · split
        · omega
        · simp; omega
    simp only []
    rw [List.length_append]
    split
    · simp; omega
    · simp; omega
  · simp
theorem itoaK_len (n : Int) : (itoaK n).length ≤ 21 := by
  unfold itoaK
  split
  · have := digsN_len 20 n.natAbs; simp; omega
  · have := digsN_len 20 n.toNat; omega
theorem textL_len (K A B C X : Int) : (textL K A B C X).1.length ≤ 300 := by
  have h1 := itoaK_len A
  have h2 := itoaK_len B
  have h3 := itoaK_len C
  have h4 := clockL_len X
  unfold textL headL tailL
  split
  · simp only []
    rw [List.length_append]
    repeat' split
    all_goals (simp; omega)
  · simp
theorem nums_ok : ∀ a, a < 366 → ((digsN 20 a).all isDig = true ∧ valL (digsN 20 a) = a ∧ 1 ≤ (digsN 20 a).length ∧ (digsN 20 a).length ≤ 3 ∧ (a < 100 → (digsN 20 a).length ≤ 2) ∧ (a < 10 → (digsN 20 a).length ≤ 1)) := by decide +kernel
theorem numberL_app (a : Nat) (ha : a < 366) (m : Nat) (hm : (digsN 20 a).length ≤ m) (t : List UInt8) (ht : ∀ c, t.head? = some c → isDig c = false) : numberL (digsN 20 a ++ t) m = ((a : Int), t, true) := by
  obtain ⟨h1, h2, h3, _⟩ := nums_ok a ha
  unfold numberL
  rw [dl_app _ _ h1 ht, if_neg (by omega), List.take_left, List.drop_left, h2]
theorem digs_head (a : Nat) (ha : a < 366) (t : List UInt8) (c : UInt8) (hc : isDig c = false) : (digsN 20 a ++ t).head? ≠ some c := by
  obtain ⟨h1, _, h3, _⟩ := nums_ok a ha
  cases hd : digsN 20 a with
  | nil => rw [hd] at h3; simp at h3
  | cons x r =>
    rw [hd] at h1
    simp only [List.cons_append, List.head?_cons, ne_eq, Option.some.injEq]
    rintro rfl
    simp only [List.all_cons, Bool.and_eq_true] at h1
    rw [hc] at h1
    exact absurd h1.1 (by simp)
theorem date_head (K A B C X : Int) (hR : rightR K A B C X = true) (t : List UInt8) (ht : ∀ c, t.head? = some c → isDig c = false) : dateL (headL K A B C ++ t) = (K, A, B, C, t, true) := by
  have hr := (right_iff K A B C X).1 hR
  obtain ⟨a, rfl⟩ : ∃ a : Nat, A = (a : Int) := ⟨A.toNat, by omega⟩
  obtain ⟨b, rfl⟩ : ∃ a : Nat, B = (a : Int) := ⟨B.toNat, by omega⟩
  obtain ⟨c, rfl⟩ : ∃ a : Nat, C = (a : Int) := ⟨C.toNat, by omega⟩
  obtain ⟨_, _, _, a3, a2, _⟩ := nums_ok a (by omega)
  unfold dateL headL
  rw [itoaK_nat, itoaK_nat, itoaK_nat]
  by_cases k0 : K = 0
  · subst k0
    obtain ⟨_, _, _, _, _, b1⟩ := nums_ok b (by omega)
    obtain ⟨_, _, _, _, _, c1⟩ := nums_ok c (by omega)
    rw [if_pos rfl, List.cons_append, if_pos (by rfl)]
    simp only [List.tail_cons, List.append_assoc, List.cons_append]
    unfold weekL
    rw [numberL_app a (by omega) 2 (a2 (by omega)) _ (by intro c hc; simp at hc; subst hc; rfl)]
    simp only []
    rw [show cutP 46 (46 :: (digsN 20 b ++ 46 :: (digsN 20 c ++ t))) = (digsN 20 b ++ 46 :: (digsN 20 c ++ t), true) from rfl]
    simp only []
    rw [numberL_app b (by omega) 1 (b1 (by omega)) _ (by intro c hc; simp at hc; subst hc; rfl)]
    simp only []
    rw [show cutP 46 (46 :: (digsN 20 c ++ t)) = (digsN 20 c ++ t, true) from rfl]
    simp only []
    rw [numberL_app c (by omega) 1 (c1 (by omega)) _ ht]
    rfl
  · rw [if_neg k0]
    by_cases k1 : K = 1
    · subst k1
      rw [if_pos rfl, List.cons_append, if_neg (by simp), if_pos (by rfl), List.tail_cons, numberL_app a (by omega) 3 a3 _ ht]
      have : b = 0 ∧ c = 0 := by omega
      rw [this.1, this.2]; rfl
    · rw [if_neg k1, if_neg (digs_head a (by omega) t 77 rfl), if_neg (digs_head a (by omega) t 74 rfl), numberL_app a (by omega) 3 a3 _ ht]
      have : b = 0 ∧ c = 0 ∧ K = 2 := by omega
      rw [this.1, this.2.1, this.2.2]; rfl
theorem parse_text (K A B C X : Int) (hR : rightR K A B C X = true) (t : List UInt8) (ht : ∀ c, t.head? = some c → isDig c = false ∧ c ≠ 58 ∧ c ≠ 47) :
    parseL ((textL K A B C X).1 ++ t) = (K, A, B, C, X, t, true) := by
  have hr := (right_iff K A B C X).1 hR
  unfold textL
  rw [if_pos hR]
  simp only []
  rw [List.append_assoc]
  have hd : dateL (headL K A B C ++ (tailL X ++ t)) = (K, A, B, C, tailL X ++ t, true) := by
    refine date_head K A B C X hR _ ?_
    intro c hc
    unfold tailL at hc
    split at hc
    · exact (ht c hc).1
    · simp at hc; subst hc; rfl
  unfold parseL
  rw [hd]
  simp only []
  rw [if_pos trivial]
  unfold tailL
  by_cases x7 : X = 7200
  · subst x7
    rw [if_pos rfl, List.nil_append, if_neg (fun h => (ht _ h).2.2 rfl), if_pos hR]
  · rw [if_neg x7, List.cons_append, if_pos (by rfl), List.tail_cons, time_clock X hr.1 t (fun c hc => ⟨(ht c hc).1, (ht c hc).2.1⟩)]
    simp only []
    rw [if_pos ⟨trivial, hR⟩]

end Go.Proofs.YtoiiblhbojhogaaDoor.Pl
end
section
set_option linter.unusedVariables false
set_option linter.unusedSimpArgs false
namespace Go.Proofs.YtoiiblhbojhogaaDoor.Pl
open Go
set_option linter.unusedVariables false
set_option linter.unusedSimpArgs false

theorem digs_one (m n : Nat) (h : n < 10) : digsN (m + 1) n = [UInt8.ofNat (48 + n)] := by rw [digsN, if_pos h]
theorem digs_more (m n : Nat) (h : ¬ n < 10) : digsN (m + 1) n = digsN m (n / 10) ++ [UInt8.ofNat (48 + n % 10)] := by rw [digsN, if_neg h]
theorem sixty_no {c a b : UInt8} {r : List UInt8} (h : ¬ (c = 58 ∧ isDig a = true ∧ isDig b = true ∧ a.toNat ≤ 53)) : sixtyL (c :: a :: b :: r) = (0, c :: a :: b :: r, false) := if_neg h
theorem sixty_yes {c a b : UInt8} {r : List UInt8} (h : c = 58 ∧ isDig a = true ∧ isDig b = true ∧ a.toNat ≤ 53) : sixtyL (c :: a :: b :: r) = (10 * ((a.toNat : Int) - 48) + ((b.toNat : Int) - 48), r, true) := if_pos h
theorem isDig_iff (a : UInt8) : isDig a = true ↔ 48 ≤ a.toNat ∧ a.toNat ≤ 57 := by unfold isDig; simp
theorem valL_one (a : UInt8) : valL [a] = a.toNat - 48 := by simp [valL]
theorem valL_two (a b : UInt8) : valL [a, b] = 10 * (a.toNat - 48) + (b.toNat - 48) := by simp [valL]
theorem valL_three (a b c : UInt8) : valL [a, b, c] = 10 * (10 * (a.toNat - 48) + (b.toNat - 48)) + (c.toNat - 48) := by simp [valL]
theorem valL_snoc (a : List UInt8) (c : UInt8) : valL (a ++ [c]) = 10 * valL a + (c.toNat - 48) := by simp [valL, List.foldl_append]
theorem take_succ_at (l : List UInt8) (j : Nat) (h : j < l.length) : l.take (j + 1) = l.take j ++ [l[j]] := (List.take_append_getElem h).symm
theorem dl_digit (l : List UInt8) : ∀ j (h : j < dl l), isDig (l[j]'(Nat.lt_of_lt_of_le h (dl_le l))) = true := by
  intro j h
  have hl := dl_le l
  have := take_dl_dig l (j + 1) (by omega)
  rw [take_succ_at l j (by omega)] at this
  exact this _ (List.mem_append_right _ (List.mem_singleton.2 rfl))
theorem dl_stop (l : List UInt8) (h : dl l < l.length) : isDig l[dl l] = false := by
  induction l with
  | nil => simp at h
  | cons a r ih =>
    by_cases ha : isDig a = true
    · have e : dl (a :: r) = dl r + 1 := by rw [dl_cons, if_pos ha]
      have h' : dl r < r.length := by rw [e] at h; simpa using h
      have := ih h'
      simp only [e, List.getElem_cons_succ]
      exact this
    · have e : dl (a :: r) = 0 := by rw [dl_cons, if_neg ha]
      simp only [e, List.getElem_cons_zero]
      simpa using ha
def refNum (l : List UInt8) (m hi : Nat) : Int × List UInt8 := if dl l = 0 ∨ m < dl l ∨ hi < valL (l.take (dl l)) then (-1, l) else ((valL (l.take (dl l)) : Int), l.drop (dl l))
theorem refNum_yes {l : List UInt8} {m hi : Nat} (h : 0 ≤ (refNum l m hi).1) : numberL l m = ((refNum l m hi).1, (refNum l m hi).2, true) := by
  unfold refNum at h ⊢
  unfold numberL
  by_cases c : dl l = 0 ∨ m < dl l ∨ hi < valL (l.take (dl l))
  · rw [if_pos c] at h; simp at h
  · rw [if_neg c, if_neg (by omega)]
theorem refNum_of {l : List UInt8} {m hi : Nat} (h : (numberL l m).2.2 = true) (hv : (numberL l m).1 ≤ (hi : Int)) : refNum l m hi = ((numberL l m).1, (numberL l m).2.1) := by
  unfold numberL at h hv ⊢
  unfold refNum
  by_cases c : dl l = 0 ∨ m < dl l
  · rw [if_pos c] at h; cases h
  · rw [if_neg c] at hv ⊢
    rw [if_neg (by simp only [] at hv; omega)]
def refDot (l : List UInt8) : Int × List UInt8 := if l.head? = some 46 then refNum l.tail 1 9 else (-1, l)
def refHead (l : List UInt8) : Int × Int × Int × Int × List UInt8 :=
  if l.head? = some 77 then (0, (refNum l.tail 2 12).1, (refDot (refNum l.tail 2 12).2).1, refDot (refDot (refNum l.tail 2 12).2).2)
  else if l.head? = some 74 then (1, (refNum l.tail 3 365).1, 0, 0, (refNum l.tail 3 365).2) else (2, (refNum l 3 365).1, 0, 0, (refNum l 3 365).2)
theorem dot_yes {l : List UInt8} (h : 0 ≤ (refDot l).1) : cutP 46 l = (l.tail, true) ∧ numberL l.tail 1 = ((refDot l).1, (refDot l).2, true) := by
  unfold refDot at h ⊢
  unfold cutP
  by_cases c : l.head? = some 46
  · rw [if_pos c] at h ⊢
    rw [if_pos c]
    exact ⟨rfl, refNum_yes h⟩
  · rw [if_neg c] at h; simp at h
theorem dot_of {l : List UInt8} (h1 : (cutP 46 l).2 = true) (h2 : (numberL (cutP 46 l).1 1).2.2 = true) : refDot l = ((numberL (cutP 46 l).1 1).1, (numberL (cutP 46 l).1 1).2.1) := by
  unfold cutP at h1 h2 ⊢
  unfold refDot
  by_cases c : l.head? = some 46
  · rw [if_pos c] at h2 ⊢
    rw [if_pos c]
    have hb := numberL_bd l.tail 1
    exact refNum_of h2 (by have h3 := hb.2; rw [show ((10 ^ 1 : Nat) : Int) = 10 from rfl] at h3; omega)
  · rw [if_neg c] at h1; cases h1
theorem head_yes (l : List UInt8) (h : rightR (refHead l).1 (refHead l).2.1 (refHead l).2.2.1 (refHead l).2.2.2.1 7200 = true) :
    dateL l = ((refHead l).1, (refHead l).2.1, (refHead l).2.2.1, (refHead l).2.2.2.1, (refHead l).2.2.2.2, true) := by
  have hr := (right_iff _ _ _ _ _).1 h
  revert hr
  unfold refHead dateL
  by_cases h77 : l.head? = some 77
  · rw [if_pos h77, if_pos h77]
    simp only []
    intro hr
    have y1 := refNum_yes (l := l.tail) (m := 2) (hi := 12) (by omega)
    have y2 := dot_yes (l := (refNum l.tail 2 12).2) (by omega)
    have y3 := dot_yes (l := (refDot (refNum l.tail 2 12).2).2) (by omega)
    unfold weekL
    rw [y1]
    simp only []
    rw [y2.1]
    simp only []
    rw [y2.2]
    simp only []
    rw [y3.1]
    simp only []
    rw [y3.2]
    rfl
  · rw [if_neg h77, if_neg h77]
    by_cases h74 : l.head? = some 74
    · rw [if_pos h74, if_pos h74]
      simp only []
      intro hr
      rw [refNum_yes (l := l.tail) (m := 3) (hi := 365) (by omega)]
    · rw [if_neg h74, if_neg h74]
      simp only []
      intro hr
      rw [refNum_yes (l := l) (m := 3) (hi := 365) (by omega)]
theorem head_of (l : List UInt8) (ho : (dateL l).2.2.2.2.2 = true) (h : rightR (dateL l).1 (dateL l).2.1 (dateL l).2.2.1 (dateL l).2.2.2.1 7200 = true) :
    refHead l = ((dateL l).1, (dateL l).2.1, (dateL l).2.2.1, (dateL l).2.2.2.1, (dateL l).2.2.2.2.1) := by
  have hr := (right_iff _ _ _ _ _).1 h
  revert hr ho
  unfold refHead dateL
  by_cases h77 : l.head? = some 77
  · rw [if_pos h77, if_pos h77]
    simp only []
    unfold weekL
    simp only [Bool.and_eq_true]
    intro ho hr
    have z1 := refNum_of (l := l.tail) (m := 2) (hi := 12) ho.1.1.1.1 (by omega)
    rw [z1]
    simp only []
    have z2 := dot_of ho.1.2 ho.1.1.1.2
    rw [z2]
    simp only []
    have z3 := dot_of ho.2 ho.1.1.2
    rw [z3]
  · rw [if_neg h77, if_neg h77]
    by_cases h74 : l.head? = some 74
    · rw [if_pos h74, if_pos h74]
      simp only []
      intro ho hr
      rw [refNum_of (l := l.tail) (m := 3) (hi := 365) ho (by omega)]
    · rw [if_neg h74, if_neg h74]
      simp only []
      intro ho hr
      rw [refNum_of (l := l) (m := 3) (hi := 365) ho (by omega)]
theorem right_sec (K A B C X Y : Int) (hX : -604799 ≤ X ∧ X ≤ 604799) (hY : -604799 ≤ Y ∧ Y ≤ 604799) : rightR K A B C X = rightR K A B C Y := by
  rw [Bool.eq_iff_iff, right_iff, right_iff]
  constructor
  · intro h; exact ⟨hY, h.2⟩
  · intro h; exact ⟨hX, h.2⟩
theorem cum_one (y : Int) : cum y 1 = 0 := by unfold cum cum0; simp
/-- How many days of the weekday there are among the first t ones of the month, if r days are ahead of the first one. -/
def hits (r t : Int) : Int := (t + 6 - r) / 7
def manyW (r B t : Int) : Int := if hits r t ≤ B then hits r t else B
def atW (n r B t : Int) : Int := if manyW r B t = 0 then -1 else n + r + 7 * (manyW r B t - 1)

end Go.Proofs.YtoiiblhbojhogaaDoor.Pl
end
section
set_option linter.unusedVariables false
set_option linter.unusedSimpArgs false
namespace Go.Proofs.YtoiiblhbojhogaaDoor.Pl
open Go Go.Proofs.YtoiiblhbojhogaaDoor.Eng
set_option linter.unusedVariables false

theorem ifT {c : Prop} [Decidable c] {a b : Prop} (h : c) (ha : a) : if c then a else b := by rw [if_pos h]; exact ha
theorem ifF {c : Prop} [Decidable c] {a b : Prop} (h : ¬ c) (hb : b) : if c then a else b := by rw [if_neg h]; exact hb
theorem ifC {c : Prop} [Decidable c] {a b : Prop} (h1 : c → a) (h2 : ¬ c → b) : if c then a else b := by
  by_cases h : c
  · exact ifT h (h1 h)
  · exact ifF h (h2 h)
theorem w64_in {n : Int} (h0 : -9223372036854775808 ≤ n) (h1 : n ≤ 9223372036854775807) : w64 n = n := by
  simp only [w64, IntKind.wrap, IntKind.bits, IntKind.signed]
  try simp
  try omega
theorem bAt_S (l : List UInt8) (i : Nat) : Eng.bAt (S l) i = ((l.getD i 0).toNat : Int) := rfl
theorem bAt0 (c : UInt8) (l : List UInt8) : Eng.bAt (S (c :: l)) 0 = (c.toNat : Int) := rfl
theorem bAt1 (a c : UInt8) (l : List UInt8) : Eng.bAt (S (a :: c :: l)) 1 = (c.toNat : Int) := rfl
theorem bAt2 (a b c : UInt8) (l : List UInt8) : Eng.bAt (S (a :: b :: c :: l)) 2 = (c.toNat : Int) := rfl
/-- A loop that comes to an end: what holds ahead of each round, and a measure. -/
theorem lp_ind {α : Type} {F : (α → Prop) → α → Prop} (μ : α → Nat) (I : α → Prop) (h : ∀ x, I x → ∀ k : α → Prop, (∀ y, I y → μ y < μ x → k y) → F k x) {x : α} (hx : I x) : Eng.lp F x := by
  have key : ∀ n x, I x → μ x < n → itrT F n x := by
    intro n
    induction n with
    | zero => intro x _ hn; omega
    | succ n ih => intro x hx hn; exact h x hx _ fun y hy hlt => ih y hy (by omega)
  exact ⟨μ x + 1, key _ _ hx (Nat.lt_succ_self _)⟩

/-- A loop through given states. -/
theorem lp_nat {α : Type} {F : (α → Prop) → α → Prop} (st : Nat → α) (N : Nat) (h : ∀ n, n ≤ N → ∀ k : α → Prop, (n < N → k (st (n + 1))) → F k (st n)) : Eng.lp F (st 0) := by
  have key : ∀ d n, n + d = N → itrT F (d + 1) (st n) := by
    intro d
    induction d with
    | zero => intro n hn; exact h n (by omega) _ fun hlt => by omega
    | succ d ih => intro n hn; exact h n (by omega) _ fun hlt => ih (n + 1) (by omega)
  exact ⟨N + 1, key N 0 (by omega)⟩

theorem lp_at {α : Type} {F : (α → Prop) → α → Prop} {x : α} (st : Nat → α) (N : Nat) (h0 : x = st 0) (h : ∀ n, n ≤ N → ∀ k : α → Prop, (n < N → k (st (n + 1))) → F k (st n)) : Eng.lp F x := by
  rw [h0]; exact lp_nat st N h
/-- How many of a list's first elements are not such. -/
def nl (q : UInt8 → Bool) (l : List UInt8) : Nat := (l.takeWhile fun c => !q c).length
theorem nl_le (q : UInt8 → Bool) (l : List UInt8) : nl q l ≤ l.length := by unfold nl; exact (List.takeWhile_sublist _).length_le
theorem nl_cons (q : UInt8 → Bool) (c : UInt8) (l : List UInt8) : nl q (c :: l) = if q c = true then 0 else nl q l + 1 := by
  unfold nl; rw [List.takeWhile_cons]; cases q c <;> simp
theorem nl_any (q : UInt8 → Bool) (l : List UInt8) : l.any q = decide (nl q l < l.length) := by
  induction l with
  | nil => rfl
  | cons c l ih =>
    rw [List.any_cons, nl_cons, ih]
    cases q c <;> simp
theorem nl_of (q : UInt8 → Bool) : ∀ (l : List UInt8) (k : Nat), k ≤ l.length → (∀ c ∈ l.take k, q c = false) → (∀ h : k < l.length, q l[k] = true) → nl q l = k
  | [], k, hk, _, _ => by simp at hk; subst hk; rfl
  | c :: l, 0, _, _, h => by
    have h0 : q c = true := h (by simp)
    rw [nl_cons, if_pos h0]
  | c :: l, k + 1, hk, h1, h2 => by
    have hc := h1 c (by simp)
    rw [nl_cons, if_neg (by rw [hc]; simp), nl_of q l k (by simpa using hk) (fun d hd => h1 d (by rw [List.take_succ_cons]; exact .tail _ hd)) (fun h => by have := h2 (by simpa using h); simpa using this)]
theorem nl_spec (q : UInt8 → Bool) : ∀ (l : List UInt8) (j : Nat) (h : j < l.length), (j < nl q l → q l[j] = false) ∧ (j = nl q l → q l[j] = true)
  | [], j, h => by simp at h
  | c :: l, 0, _ => by
    rw [nl_cons]
    cases hq : q c
    · exact ⟨fun _ => hq, fun h => by simp at h⟩
    · exact ⟨fun h => by simp at h, fun _ => hq⟩
  | c :: l, j + 1, h => by
    have ih := nl_spec q l j (by simpa using h)
    rw [nl_cons]
    cases hq : q c
    · simp only [Bool.false_eq_true, if_false, List.getElem_cons_succ]
      exact ⟨fun h => ih.1 (by omega), fun h => ih.2 (by omega)⟩
    · exact ⟨fun h => by simp at h, fun h => by simp at h⟩
theorem indexByte_nl (l : List UInt8) (c : UInt8) : Lib.indexByte l c = if nl (· == c) l < l.length then (nl (· == c) l : Int) else -1 := by
  induction l with
  | nil => rfl
  | cons b l ih =>
    rw [Lib.indexByte, nl_cons, ih]
    cases hb : (b == c)
    · simp only [Bool.false_eq_true, if_false, List.length_cons]
      by_cases h : nl (· == c) l < l.length
      · rw [if_pos h, if_neg (by simp), if_pos (by omega)]; omega
      · rw [if_neg h, if_pos (by simp), if_neg (by omega)]
    · simp
theorem decode_lo (l : List UInt8) (pos : Nat) (h : pos < l.length) (ha : l[pos].toNat < 128) : Utf8.decode (S l) pos = (l[pos].toNat, 1) := decode_ascii (S l) pos (by rw [S_size]; exact h) ha
theorem decode_hi (l : List UInt8) (pos : Nat) (h : pos < l.length) (ha : 128 ≤ l[pos].toNat) : 128 ≤ (Utf8.decode (S l) pos).1 ∧ 1 ≤ (Utf8.decode (S l) pos).2 := decode_high (S l) pos (by rw [S_size]; exact h) ha
theorem S_toList' (l : List UInt8) : (S l).toList = l := S_toList l
end Go.Proofs.YtoiiblhbojhogaaDoor.Pl
end
section
set_option linter.unusedVariables false
set_option linter.unusedSimpArgs false
namespace Go.Proofs.YtoiiblhbojhogaaDoor.Pl
open Go Go.Proofs.YtoiiblhbojhogaaDoor.Eng
set_option linter.unusedVariables false
set_option linter.unusedSimpArgs false

abbrev W32 := BitVec 32
/-- A word, and a byte, as whole numbers. -/
abbrev wi (x : W32) : Int := (x.toNat : Int)
abbrev bi (c : UInt8) : Int := (c.toNat : Int)
abbrev cw (x : W32) : V := .c (.int .u32 (wi x))
abbrev cb (c : UInt8) : V := .c (.int .u8 (bi c))
theorem wu32_in {n : Int} (h0 : 0 ≤ n) (h1 : n ≤ 4294967295) : wu32 n = n := by
  simp only [wu32, IntKind.wrap, IntKind.bits, IntKind.signed]
  try simp
  try omega
theorem wu8_in {n : Int} (h0 : 0 ≤ n) (h1 : n ≤ 255) : wu8 n = n := by
  simp only [wu8, IntKind.wrap, IntKind.bits, IntKind.signed]
  try simp
  try omega
theorem wu64_in {n : Int} (h0 : 0 ≤ n) (h1 : n ≤ 18446744073709551615) : wu64 n = n := by
  simp only [wu64, IntKind.wrap, IntKind.bits, IntKind.signed]
  try simp
  try omega
theorem wu32_nat (n : Nat) : wu32 (n : Int) = wi (BitVec.ofNat 32 n) := by
  simp only [wu32, wi, IntKind.wrap, IntKind.bits, IntKind.signed, BitVec.toNat_ofNat]
  simp
theorem wi_lt (x : W32) : x.toNat < 4294967296 := x.isLt
theorem bi_lt (c : UInt8) : c.toNat < 256 := c.toNat_lt
theorem wu32_wi (x : W32) : wu32 (x.toNat : Int) = wi x := wu32_in (by omega) (by have := wi_lt x; omega)
theorem ofInt_wi (x : W32) : BitVec.ofInt 32 (wi x) = x := by
  apply BitVec.eq_of_toNat_eq
  rw [BitVec.toNat_ofInt]
  have := wi_lt x
  have e : ((2 ^ 32 : Nat) : Int) = 4294967296 := by decide
  rw [e]
  unfold wi
  omega
theorem wi_add (x y : W32) : wu32 (wi x + wi y) = wi (x + y) := by
  rw [show wi x + wi y = ((x.toNat + y.toNat : Nat) : Int) by simp [wi], wu32_nat]
  congr 1
theorem wi_shl (x : W32) (k : Nat) : wu32 (wi x * 2 ^ k) = wi (x <<< k) := by
  rw [show wi x * 2 ^ k = ((x.toNat * 2 ^ k : Nat) : Int) by simp [wi], wu32_nat]
  congr 1
  apply BitVec.eq_of_toNat_eq
  simp [BitVec.toNat_shiftLeft, Nat.shiftLeft_eq]
theorem wi_shr (x : W32) (k : Nat) : Int.fdiv (wi x) (2 ^ k) = wi (x >>> k) := by
  rw [Int.fdiv_eq_ediv_of_nonneg _ (by exact_mod_cast Nat.zero_le _)]
  unfold wi
  rw [BitVec.toNat_ushiftRight, Nat.shiftRight_eq_div_pow]
  exact_mod_cast rfl
def rotl (x : W32) (k : Nat) : W32 := x <<< k ||| x >>> (32 - k)
theorem wi_lit (n : Nat) (h : n < 4294967296) : (n : Int) = wi (BitVec.ofNat 32 n) := by
  unfold wi
  rw [BitVec.toNat_ofNat, Nat.mod_eq_of_lt (by omega)]
theorem wu32_bi (c : UInt8) : wu32 (bi c) = wi (BitVec.ofNat 32 c.toNat) := by rw [wu32_nat]

/-- The words of a block: sixteen, then those that are mixed. -/
def sched : Nat → List W32 → List W32
  | 0, l => l
  | n + 1, l => sched n (l ++ [rotl (l.getD (l.length - 3) 0 ^^^ l.getD (l.length - 8) 0 ^^^ l.getD (l.length - 14) 0 ^^^ l.getD (l.length - 16) 0) 1])
def next (l : List W32) : List W32 := l ++ [rotl (l.getD (l.length - 3) 0 ^^^ l.getD (l.length - 8) 0 ^^^ l.getD (l.length - 14) 0 ^^^ l.getD (l.length - 16) 0) 1]
def word (b : List UInt8) (i : Nat) : W32 := b.foldl (fun w c => w <<< 8 ||| BitVec.ofNat 32 c.toNat) 0
def wordAt (b : List UInt8) (i : Nat) : W32 := word ((b.drop (4 * i)).take 4) 0
def first (b : List UInt8) (n : Nat) : List W32 := (List.range n).map (wordAt b)
def wordsN (b : List UInt8) : Nat → List W32
  | 0 => first b 16
  | n + 1 => next (wordsN b n)
theorem wordsN_len (b : List UInt8) (n : Nat) : (wordsN b n).length = 16 + n := by
  induction n with
  | zero => simp [wordsN, first]
  | succ n ih => simp [wordsN, next, ih]; omega
structure St5 where
  a : W32
  b : W32
  c : W32
  d : W32
  e : W32
def fAt (i : Nat) (b c d : W32) : W32 := if i < 20 then d ^^^ (b &&& (c ^^^ d)) else if i < 40 then b ^^^ c ^^^ d else if i < 60 then (b &&& c) ||| (d &&& (b ||| c)) else b ^^^ c ^^^ d
def kAt (i : Nat) : W32 := if i < 20 then 1518500249#32 else if i < 40 then 1859775393#32 else if i < 60 then 2400959708#32 else 3395469782#32
def stepS (s : St5) (f k w : W32) : St5 := ⟨rotl s.a 5 + f + s.e + k + w, s.a, rotl s.b 30, s.c, s.d⟩
def roundsN (ws : List W32) (s : St5) : Nat → St5
  | 0 => s
  | n + 1 => let t := roundsN ws s n; stepS t (fAt n t.b t.c t.d) (kAt n) (ws.getD n 0)
def addS (s t : St5) : St5 := ⟨s.a + t.a, s.b + t.b, s.c + t.c, s.d + t.d, s.e + t.e⟩
def blockL (s : St5) (b : List UInt8) : St5 := addS (roundsN (wordsN b 64) s 80) s
def blocksN (l : List UInt8) (s : St5) : Nat → St5
  | 0 => s
  | n + 1 => blockL (blocksN l s n) ((l.drop (64 * n)).take 64)
def be64 (n : Nat) : List UInt8 := (List.range 8).map fun i => UInt8.ofNat (n / 2 ^ (8 * (7 - i)))
def padL (m : List UInt8) : List UInt8 := m ++ [128] ++ List.replicate ((184 - (m.length + 1) % 64) % 64) 0 ++ be64 (8 * m.length)
def s0 : St5 := ⟨1732584193#32, 4023233417#32, 2562383102#32, 271733878#32, 3285377520#32⟩
def St5.at (s : St5) (i : Nat) : W32 := match i with | 0 => s.a | 1 => s.b | 2 => s.c | 3 => s.d | _ => s.e
def sumS (m : List UInt8) : St5 := blocksN (padL m) s0 ((padL m).length / 64)
def digest (m : List UInt8) (i : Nat) : UInt8 := UInt8.ofNat (((sumS m).at (i / 4)).toNat / 2 ^ (24 - 8 * (i % 4)))
theorem padL_len (m : List UInt8) : (padL m).length % 64 = 0 := by
  simp [padL, be64]
  omega
/-- Words of a digest, and its digits. -/
def wordsOf (d : Nat → UInt8) (j : Nat) : W32 := word [d (4 * j), d (4 * j + 1), d (4 * j + 2), d (4 * j + 3)] 0
def hexC (n : Nat) : UInt8 := [48, 49, 50, 51, 52, 53, 54, 55, 56, 57, 97, 98, 99, 100, 101, 102].getD n 0
def hexN (d : Nat → UInt8) : Nat → List UInt8
  | 0 => []
  | n + 1 => hexN d n ++ [hexC ((d n).toNat / 16), hexC ((d n).toNat % 16)]

theorem wordsN_get (b : List UInt8) (n i : Nat) (h : i < 16 + n) : ∀ m, n ≤ m → (wordsN b m).getD i 0 = (wordsN b n).getD i 0 := by
  intro m
  induction m with
  | zero => intro hm; rw [show n = 0 by omega]
  | succ m ih =>
    intro hm
    by_cases e : n = m + 1
    · rw [e]
    · rw [← ih (by omega)]
      have hl : i < (wordsN b m).length := by rw [wordsN_len]; omega
      simp only [wordsN, next, List.getD_eq_getElem?_getD, List.getElem?_append_left hl]
theorem first_get (b : List UInt8) (n i : Nat) (h : i < n) : (first b n).getD i 0 = wordAt b i := by
  simp [first, List.getD_eq_getElem?_getD, h]

/-- Arrays in memory: one element, its cells plain. -/
def agL (k : IntKind) (n : Nat) (f : Nat → Int) : List V := [.agg ((List.range n).map fun i => .c (.int k (f i)))]
def updF (f : Nat → Int) (i : Nat) (x : Int) : Nat → Int := fun j => if j = i then x else f j
theorem agL_get {k : IntKind} {n : Nat} {f : Nat → Int} {i : Nat} (h : i < n) : getC (agL k n f) 0 i = some (.c (.int k (f i))) := by
  simp [agL, getC, V.cells, h]
theorem asI {k : IntKind} {n : Nat} {f : Nat → Int} {i : Nat} (h : i < n) {F : Prop} {K : Int → Prop} (hk : K (f i)) : Eng.asInt k (getC (agL k n f) 0 i) F K := by
  rw [agL_get h]
  simpa [Eng.asInt] using hk
theorem asL {k : IntKind} {n : Nat} {f : Nat → Int} {i : Nat} (h : i < n) {F : Prop} {K : Int → Prop} (hk : K (f i)) : Eng.asInt k (((List.range n).map fun i => V.c (.int k (f i)))[i]?) F K := by
  simp [Eng.asInt, h, hk]
theorem agL_set {k : IntKind} {n : Nat} {f : Nat → Int} {i : Nat} {x : Int} (h : i < n) : List.set (agL k n f) 0 (setE (List.getD (agL k n f) 0 V.bad) i [.c (.int k x)]) = agL k n (updF f i x) := by
  simp only [agL, List.getD_cons_zero, setE, setL, List.set_cons_zero]
  congr 2
  apply List.ext_getElem?
  intro j
  rw [List.getElem?_set]
  by_cases hj : j < n
  · by_cases e : i = j
    · subst e; simp [updF, h]
    · simp [e, hj, updF, Ne.symm e]
  · have : ¬ i = j := by omega
    simp [this, hj]
theorem agL_len {k : IntKind} {n : Nat} {f : Nat → Int} : (agL k n f).length = 1 := rfl
theorem agL_congr {k : IntKind} {n : Nat} {f g : Nat → Int} (h : ∀ i, i < n → f i = g i) : agL k n f = agL k n g := by
  unfold agL
  congr 2
  apply List.map_congr_left
  intro i hi
  rw [h i (List.mem_range.1 hi)]
end Go.Proofs.YtoiiblhbojhogaaDoor.Pl
end
