/- What the functions come to in plain data, with proofs, and what that answers. -/
import Derived.Test.YtoiiblhbojhogaaGreatDoorE2
import Derived.Shelf.Strings.Builder1
import Derived.Shelf.Strings.Builder2
import Derived.Shelf.Strings.OnBuilder
import Derived.Shelf.Strconv.Itoa0
import Derived.Shelf.Strconv.Itoa1
import Derived.Shelf.LaysM
import Derived.Shelf.Strconv.Itoa2
import Derived.Shelf.Strconv.Itoa3
import Derived.Shelf.Strings.Search1
import Derived.Shelf.Strings.Search2
import Derived.Shelf.Strings.Search3
import Derived.Shelf.Strings.Cut
import Derived.Shelf.Strings.Count
import Derived.Shelf.Strings.Shaped
import Derived.Shelf.Strings.Prefix
import Derived.Shelf.Bits.Mul64
import Derived.Shelf.Unicode.DecodeSlow
import Derived.Test.YtoiiblhbojhogaaGreatDoorProg
import Derived.Below
import Derived.KernelRfl
import Derived.Lib.AppendIntMem
import Derived.Lib.ItoaMem
import Derived.Lib.ItoaNum
import Derived.Lib.Join
import Derived.Lib.LaidTab
section
set_option linter.unusedVariables false
set_option linter.unusedSimpArgs false
namespace Go.Proofs
open Go.Shelf
def Tryz.lays156_ren : Go.Shelf.Ren := ⟨fun | 156 => 90 | 165 => 125 | 166 => 126 | 169 => 127 | 240 => 153 | 241 => 154 | 276 => 167 | 277 => 168 | n => n, fun | 31 => 47 | 9 => 9 | 3 => 3 | 4 => 4 | 0 => 0 | 20 => 20 | 72 => 141 | 76 => 145 | 70 => 139 | 37 => 97 | 75 => 144 | 127 => 166 | 164 => 181 | 5 => 5 | 80 => 70 | n => n, fun | n => n⟩
theorem Tryz.lays156 : Go.Proofs.Lays.n156 Tryz.prog Tryz.lays156_ren := {
  mixed := by kernel_rfl
  f156 := Tryz.func90.trans (congrArg some (by kernel_rfl))
  f165 := Tryz.func125.trans (congrArg some (by kernel_rfl))
  f166 := Tryz.func126.trans (congrArg some (by kernel_rfl))
  f169 := Tryz.func127.trans (congrArg some (by kernel_rfl))
  f240 := Tryz.func153.trans (congrArg some (by kernel_rfl))
  f241 := Tryz.func154.trans (congrArg some (by kernel_rfl))
  f276 := Tryz.func167.trans (congrArg some (by kernel_rfl))
  f277 := Tryz.func168.trans (congrArg some (by kernel_rfl))
  t0 := Tryz.underlying0
  a0 := Tryz.isAgg0
  z0 := Tryz.sizeOf0
  v0 := Tryz.zeroValue0
  t3 := Tryz.underlying3
  a3 := Tryz.isAgg3
  z3 := Tryz.sizeOf3
  v3 := Tryz.zeroValue3
  t4 := Tryz.underlying4
  a4 := Tryz.isAgg4
  z4 := Tryz.sizeOf4
  v4 := Tryz.zeroValue4
  t9 := Tryz.underlying9
  a9 := Tryz.isAgg9
  z9 := Tryz.sizeOf9
  v9 := Tryz.zeroValue9
  t20 := Tryz.underlying20
  a20 := Tryz.isAgg20
  z20 := Tryz.sizeOf20
  v20 := Tryz.zeroValue20
  t31 := Tryz.underlying47
  a31 := Tryz.isAgg47
  z31 := Tryz.sizeOf47
  v31 := Tryz.zeroValue47
  t37 := Tryz.underlying97
  a37 := Tryz.isAgg97
  z37 := Tryz.sizeOf97
  v37 := Tryz.zeroValue97
  t70 := Tryz.underlying139
  a70 := Tryz.isAgg139
  z70 := Tryz.sizeOf139
  v70 := Tryz.zeroValue139
  t72 := Tryz.underlying141
  a72 := Tryz.isAgg141
  z72 := Tryz.sizeOf141
  v72 := Tryz.zeroValue141
  t75 := Tryz.underlying144
  a75 := Tryz.isAgg144
  z75 := Tryz.sizeOf144
  v75 := Tryz.zeroValue144
  t76 := Tryz.underlying145
  a76 := Tryz.isAgg145
  z76 := Tryz.sizeOf145
  v76 := Tryz.zeroValue145
  t127 := Tryz.underlying166
  a127 := Tryz.isAgg166
  z127 := Tryz.sizeOf166
  v127 := Tryz.zeroValue166
  t164 := Tryz.underlying181
  a164 := Tryz.isAgg181
  z164 := Tryz.sizeOf181
  v164 := Tryz.zeroValue181 }
theorem Tryz.Builder_Extra_156 : Builder.Extra Tryz.prog Tryz.lays156_ren := {
  sizeBuilder := by kernel_rfl
  liesBuilder := by kernel_rfl
  t5 := Tryz.underlying5
  a5 := Tryz.isAgg5
  z5 := Tryz.sizeOf5
  v5 := Tryz.zeroValue5
  infoByte := by kernel_rfl
  cellsByte := by kernel_rfl
  sizeByte := by kernel_rfl
  neB5 := by decide }
open Go.RowKit in
/-- No element: the empty string; the world is as it was. (Whatever the slice's address and capacity: a nil slice too.) (LAID: no walk: one application.) -/
theorem Tryz.strings_Join_none (a : Option Addr) (c : Nat) (sep : ByteArray) (w : World) :
    Calls Tryz.prog 90 #[.slice a 0 c, .string sep] w fun e w' => e = .returned (.string ⟨#[]⟩) ∧ w' = w := Any.strings_Join_none Tryz.lays156 Tryz.Builder_Extra_156 a c sep w
open Go.RowKit in
/-- strings.Join: "Join concatenates the elements of its first argument to create a single string. The separator string sep is placed between elements in the resulting string.": HOWEVER MANY ELEMENTS. Below the heap's end the world is as it was. (LAID: no walk: one application.) -/
theorem Tryz.strings_Join (bk o c : Nat) (xs : List ByteArray) (sep : ByteArray) (w : World) (hcells : ∀ (j : Nat) x, xs[j]? = some x → w.cell? ⟨bk, o + j, none⟩ = some (.string x)) (hbk : bk < w.heap.size) (hN : xs.length ≤ 140737488355328) (hcap : xs.length ≤ c) (hlen : (Lib.join (xs.map (·.data.toList)) sep.data.toList).length ≤ 140737488355328) :
    Calls Tryz.prog 90 #[.slice (some ⟨bk, o, none⟩) xs.length c, .string sep] w fun e w' => e = .returned (.string ⟨(Lib.join (xs.map (·.data.toList)) sep.data.toList).toArray⟩) ∧ Below w.heap.size w w' := Any.strings_Join Tryz.lays156 Tryz.Builder_Extra_156 bk o c xs sep w hcells hbk hN hcap hlen
def Tryz.laysM171_ren : Go.Shelf.Ren := ⟨fun | 171 => 65 | 243 => 110 | 246 => 141 | 283 => 161 | 284 => 162 | 285 => 163 | 286 => 164 | 129 => 171 | 317 => 170 | 318 => 172 | 319 => 173 | 320 => 174 | 337 => 175 | 338 => 176 | n => n, fun | 3 => 3 | 9 => 9 | 2 => 2 | 4 => 4 | 171 => 174 | 0 => 0 | 53 => 148 | 37 => 97 | 5 => 5 | 173 => 177 | 212 => 185 | 51 => 82 | 20 => 20 | 213 => 186 | 46 => 124 | 232 => 193 | 233 => 194 | n => n, fun | 17 => 1 | 18 => 4 | 19 => 5 | n => n⟩
theorem Tryz.laysM171 : Go.Proofs.LaysM.n171 Tryz.prog Tryz.laysM171_ren := {
  mixed := by kernel_rfl
  f129 := Tryz.func171.trans (congrArg some (by kernel_rfl))
  f171 := Tryz.func65.trans (congrArg some (by kernel_rfl))
  f243 := Tryz.func110.trans (congrArg some (by kernel_rfl))
  f246 := Tryz.func141.trans (congrArg some (by kernel_rfl))
  f283 := Tryz.func161.trans (congrArg some (by kernel_rfl))
  f284 := Tryz.func162.trans (congrArg some (by kernel_rfl))
  f285 := Tryz.func163.trans (congrArg some (by kernel_rfl))
  f286 := Tryz.func164.trans (congrArg some (by kernel_rfl))
  f317 := Tryz.func170.trans (congrArg some (by kernel_rfl))
  f318 := Tryz.func172.trans (congrArg some (by kernel_rfl))
  f319 := Tryz.func173.trans (congrArg some (by kernel_rfl))
  f320 := Tryz.func174.trans (congrArg some (by kernel_rfl))
  f337 := Tryz.func175.trans (congrArg some (by kernel_rfl))
  f338 := Tryz.func176.trans (congrArg some (by kernel_rfl))
  t0 := Tryz.underlying0
  a0 := Tryz.isAgg0
  z0 := Tryz.sizeOf0
  v0 := Tryz.zeroValue0
  t2 := Tryz.underlying2
  a2 := Tryz.isAgg2
  z2 := Tryz.sizeOf2
  v2 := Tryz.zeroValue2
  t3 := Tryz.underlying3
  a3 := Tryz.isAgg3
  z3 := Tryz.sizeOf3
  v3 := Tryz.zeroValue3
  t4 := Tryz.underlying4
  a4 := Tryz.isAgg4
  z4 := Tryz.sizeOf4
  v4 := Tryz.zeroValue4
  t5 := Tryz.underlying5
  a5 := Tryz.isAgg5
  z5 := Tryz.sizeOf5
  v5 := Tryz.zeroValue5
  t9 := Tryz.underlying9
  a9 := Tryz.isAgg9
  z9 := Tryz.sizeOf9
  v9 := Tryz.zeroValue9
  t20 := Tryz.underlying20
  a20 := Tryz.isAgg20
  z20 := Tryz.sizeOf20
  v20 := Tryz.zeroValue20
  t37 := Tryz.underlying97
  a37 := Tryz.isAgg97
  z37 := Tryz.sizeOf97
  v37 := Tryz.zeroValue97
  t46 := Tryz.underlying124
  a46 := Tryz.isAgg124
  z46 := Tryz.sizeOf124
  v46 := Tryz.zeroValue124
  t51 := Tryz.underlying82
  a51 := Tryz.isAgg82
  z51 := Tryz.sizeOf82
  v51 := Tryz.zeroValue82
  t53 := Tryz.underlying148
  a53 := Tryz.isAgg148
  z53 := Tryz.sizeOf148
  v53 := Tryz.zeroValue148
  t171 := Tryz.underlying174
  a171 := Tryz.isAgg174
  z171 := Tryz.sizeOf174
  v171 := Tryz.zeroValue174
  t173 := Tryz.underlying177
  a173 := Tryz.isAgg177
  z173 := Tryz.sizeOf177
  v173 := Tryz.zeroValue177
  t212 := Tryz.underlying185
  a212 := Tryz.isAgg185
  z212 := Tryz.sizeOf185
  v212 := Tryz.zeroValue185
  t213 := Tryz.underlying186
  a213 := Tryz.isAgg186
  z213 := Tryz.sizeOf186
  t232 := Tryz.underlying193
  a232 := Tryz.isAgg193
  z232 := Tryz.sizeOf193
  v232 := Tryz.zeroValue193
  t233 := Tryz.underlying194
  a233 := Tryz.isAgg194
  z233 := Tryz.sizeOf194
  v233 := Tryz.zeroValue194
  g17 := by kernel_rfl
  g18 := by kernel_rfl
  g19 := by kernel_rfl
  i0 := by kernel_rfl
  i2 := by kernel_rfl
  i3 := by kernel_rfl
  i4 := by kernel_rfl
  i5 := by kernel_rfl
  i9 := by kernel_rfl
  i20 := by kernel_rfl
  i37 := by kernel_rfl
  i46 := by kernel_rfl
  i51 := by kernel_rfl
  i53 := by kernel_rfl
  i171 := by kernel_rfl
  i173 := by kernel_rfl
  i212 := by kernel_rfl
  i232 := by kernel_rfl
  i233 := by kernel_rfl
  m17 := by kernel_rfl
  m18 := by kernel_rfl
  m19 := by kernel_rfl }
open Go.RowKit Go.Sort Go.Lib in
/-- strconv.Itoa: "Itoa is equivalent to FormatInt(int64(i), 10).": i's DECIMAL NUMERAL ('Lib.itoa': a '-' where i is negative, then the digits), FOR EVERY int. The world behind the call: the world before it, new blocks behind the heap (the library's 'var a [24]byte'), draws. (LAID: no walk: one application.) -/
theorem Tryz.strconv_Itoa (n : Int) (h0 : -9223372036854775808 ≤ n) (h1 : n ≤ 9223372036854775807) (w : World) (htab : Lib.TabIs Tryz.prog w "internal/strconv.uint64pow10" .u64 Lib.pow10Tab) :
    Calls Tryz.prog 65 #[.int .i64 n] w fun e w' => e = .returned (.string ⟨(Lib.itoa n).toArray⟩) ∧ ∃ k os, w' = grow (w.drewN k) os := Any.strconv_Itoa Tryz.laysM171 n h0 h1 w htab
def Tryz.lays217_ren : Go.Shelf.Ren := ⟨fun | 217 => 145 | 266 => 165 | n => n, fun | 9 => 9 | 5 => 5 | 3 => 3 | n => n, fun | n => n⟩
theorem Tryz.lays217 : Go.Proofs.Lays.n217 Tryz.prog Tryz.lays217_ren := {
  mixed := by kernel_rfl
  f217 := Tryz.func145.trans (congrArg some (by kernel_rfl))
  f266 := Tryz.func165.trans (congrArg some (by kernel_rfl))
  t3 := Tryz.underlying3
  a3 := Tryz.isAgg3
  z3 := Tryz.sizeOf3
  v3 := Tryz.zeroValue3
  t5 := Tryz.underlying5
  a5 := Tryz.isAgg5
  z5 := Tryz.sizeOf5
  v5 := Tryz.zeroValue5
  t9 := Tryz.underlying9
  a9 := Tryz.isAgg9
  z9 := Tryz.sizeOf9
  v9 := Tryz.zeroValue9 }
open Go.RowKit Go.Lib in
/-- internal/stringslite.IndexByte (what strings.IndexByte calls): IT RETURNS 'Lib.indexByte s c'; the world is as it was. (LAID: no walk: one application.) -/
theorem Tryz.stringslite_IndexByte (s : ByteArray) (c : Int) (w : World) :
    Calls Tryz.prog 145 #[.string s, .int .u8 c] w fun e w' => e = .returned (.int .i64 (Lib.indexByte s.data.toList c.toNat.toUInt8)) ∧ w' = w := Any.stringslite_IndexByte Tryz.lays217 s c w
def Tryz.lays138_ren : Go.Shelf.Ren := ⟨fun | 138 => 129 | 195 => 155 | 218 => 157 | 143 => 130 | 219 => 115 | 217 => 145 | 225 => 146 | 224 => 147 | 267 => 148 | 266 => 165 | 314 => 166 | n => n, fun | 9 => 9 | 3 => 3 | 4 => 4 | 5 => 5 | 0 => 0 | 46 => 124 | 146 => 179 | 51 => 82 | n => n, fun | 1 => 0 | n => n⟩
theorem Tryz.lays138 : Go.Proofs.Lays.n138 Tryz.prog Tryz.lays138_ren := {
  mixed := by kernel_rfl
  f138 := Tryz.func129.trans (congrArg some (by kernel_rfl))
  f143 := Tryz.func130.trans (congrArg some (by kernel_rfl))
  f195 := Tryz.func155.trans (congrArg some (by kernel_rfl))
  f217 := Tryz.func145.trans (congrArg some (by kernel_rfl))
  f218 := Tryz.func157.trans (congrArg some (by kernel_rfl))
  f219 := Tryz.func115.trans (congrArg some (by kernel_rfl))
  f224 := Tryz.func147.trans (congrArg some (by kernel_rfl))
  f225 := Tryz.func146.trans (congrArg some (by kernel_rfl))
  f266 := Tryz.func165.trans (congrArg some (by kernel_rfl))
  f267 := Tryz.func148.trans (congrArg some (by kernel_rfl))
  f314 := Tryz.func166.trans (congrArg some (by kernel_rfl))
  t0 := Tryz.underlying0
  a0 := Tryz.isAgg0
  z0 := Tryz.sizeOf0
  v0 := Tryz.zeroValue0
  t3 := Tryz.underlying3
  a3 := Tryz.isAgg3
  z3 := Tryz.sizeOf3
  v3 := Tryz.zeroValue3
  t4 := Tryz.underlying4
  a4 := Tryz.isAgg4
  z4 := Tryz.sizeOf4
  v4 := Tryz.zeroValue4
  t5 := Tryz.underlying5
  a5 := Tryz.isAgg5
  z5 := Tryz.sizeOf5
  v5 := Tryz.zeroValue5
  t9 := Tryz.underlying9
  a9 := Tryz.isAgg9
  z9 := Tryz.sizeOf9
  v9 := Tryz.zeroValue9
  t46 := Tryz.underlying124
  a46 := Tryz.isAgg124
  z46 := Tryz.sizeOf124
  v46 := Tryz.zeroValue124
  t51 := Tryz.underlying82
  a51 := Tryz.isAgg82
  z51 := Tryz.sizeOf82
  v51 := Tryz.zeroValue82
  t146 := Tryz.underlying179
  a146 := Tryz.isAgg179
  z146 := Tryz.sizeOf179
  v146 := Tryz.zeroValue179
  g1 := by kernel_rfl }
open Go.RowKit Go.Lib in
/-- strings.Count AT A substr OF ONE BYTE ('hp'): "Count counts the number of non-overlapping instances of substr in s.": IT RETURNS 'Lib.countByte s (that byte)'; the world is as it was. ✋ NO CONTRACT HERE YET at an empty substr (utf8.RuneCountInString) or at a longer one (a loop over strings.Index). (LAID: no walk: one application.) -/
theorem Tryz.strings_Count_one (s : ByteArray) (c : UInt8) (w : World) :
    Calls Tryz.prog 129 #[.string s, .string ⟨#[c]⟩] w fun e w' => e = .returned (.int .i64 (Lib.countByte s.data.toList c)) ∧ w' = w := Any.strings_Count_one Tryz.lays138 s c w
end Go.Proofs
end
section
set_option linter.unusedVariables false
set_option linter.unusedSimpArgs false
namespace Go.Proofs.YtoiiblhbojhogaaGreatDoor
open Go Go.Proofs.YtoiiblhbojhogaaGreatDoor.Eng Go.RowKit
set_option linter.unusedVariables false
def gives : FuncId → Bool := fun g => Nat.beq g 92
theorem follows : Tryz.prog.follows .mixedOrders = true := by kernel_rfl
/-- Objects of memory that stay as they are, and hold a table. -/
abbrev Gs := {l : List (Nat × Obj) // ∀ w : World, (∀ x ∈ l, w.heap[x.1]? = some x.2) → Lib.TabIs Tryz.prog w "internal/strconv.uint64pow10" .u64 Lib.pow10Tab}
variable {G : Gs}

abbrev Titoa : Type := Int → (ByteArray → Prop) → Prop
abbrev TindexByte : Type := ByteArray → Int → (Int → Prop) → Prop
def Xitoa (n : Int) (K : ByteArray → Prop) : Prop := (-9223372036854775808 ≤ n ∧ n ≤ 9223372036854775807) ∧ K ⟨(Lib.itoa n).toArray⟩
def Jitoa (X : Int → (ByteArray → Prop) → Prop) : Inst := ⟨65, (.cons (.int .i64) .nil), .nil, (.cons .str .nil), .nil, fun x y K => X x.1 (fun u0 => K (u0, ()) ())⟩
def Iitoa : Inst := Jitoa Xitoa
theorem Iitoa_ok : InstOk Tryz.prog G.1 Iitoa := fun ⟨n, _⟩ y K ⟨h1, h3⟩ =>
  (told (args := [.int .i64 n]) (rs := [.string ⟨(Lib.itoa n).toArray⟩]) rfl fun w hw => (Tryz.strconv_Itoa n h1.1 h1.2 w (G.2 w hw)).mono fun e w' ⟨he, k, os, hw⟩ => ⟨he, by subst hw; exact Lib.below_grow _ _ (Nat.le_refl _) _ _⟩).mono fun rs h' ⟨e1, e2⟩ => ⟨(⟨(Lib.itoa n).toArray⟩, ()), (), e1, e2, h3⟩
def XindexByte (s : ByteArray) (c : Int) (K : Int → Prop) : Prop := K (Lib.indexByte s.data.toList c.toNat.toUInt8)
def JindexByte (X : ByteArray → Int → (Int → Prop) → Prop) : Inst := ⟨145, (.cons .str (.cons (.int .u8) .nil)), .nil, (.cons (.int .i64) .nil), .nil, fun x y K => X x.1 x.2.1 (fun u0 => K (u0, ()) ())⟩
def IindexByte : Inst := JindexByte XindexByte
theorem IindexByte_ok : InstOk Tryz.prog G.1 IindexByte := fun ⟨s, c, _⟩ y K h3 =>
  (told (args := [.string s, .int .u8 c]) (rs := [.int .i64 (Lib.indexByte s.data.toList c.toNat.toUInt8)]) rfl fun w _ => (Tryz.stringslite_IndexByte s c w).mono fun e w' ⟨he, hw⟩ => ⟨he, by subst hw; exact Below.refl _ _⟩).mono fun rs h' ⟨e1, e2⟩ => ⟨(_, ()), (), e1, e2, h3⟩
abbrev Tjoin : Type := List V → ByteArray → (ByteArray → Prop) → Prop
abbrev Tcount : Type := ByteArray → ByteArray → (Int → Prop) → Prop
def cs (b : ByteArray) : V := .c (.string b)
def Xcount (s sep : ByteArray) (K : Int → Prop) : Prop := ∃ c, sep = ⟨#[c]⟩ ∧ K (Lib.countByte s.data.toList c)
def Jcount (X : Tcount) : Inst := ⟨129, (.cons .str (.cons .str .nil)), .nil, (.cons (.int .i64) .nil), .nil, fun x y K => X x.1 x.2.1 (fun u0 => K (u0, ()) ())⟩
def Icount : Inst := Jcount Xcount
theorem Icount_ok : InstOk Tryz.prog G.1 Icount := fun ⟨s, sep, _⟩ y K ⟨c, hc, h3⟩ =>
  (told (args := [.string s, .string sep]) (rs := [.int .i64 (Lib.countByte s.data.toList c)]) rfl fun w _ => by
    subst hc
    exact (Tryz.strings_Count_one s c w).mono fun e w' ⟨he, hw⟩ => ⟨he, by subst hw; exact Below.refl _ _⟩).mono fun rs h' ⟨e1, e2⟩ => ⟨(_, ()), (), e1, e2, h3⟩
def Xjoin (xs : List V) (sep : ByteArray) (K : ByteArray → Prop) : Prop := ∃ bs : List ByteArray, xs = bs.map cs ∧ bs.length ≤ 1000000 ∧ (Lib.join (bs.map (·.data.toList)) sep.data.toList).length ≤ 100000000 ∧ K ⟨(Lib.join (bs.map (·.data.toList)) sep.data.toList).toArray⟩
def Jjoin (X : Tjoin) : Inst := ⟨90, (.cons (.slN 1) (.cons .str .nil)), .nil, (.cons .str .nil), .nil, fun x y K => X x.1 x.2.1 (fun u0 => K (u0, ()) ())⟩
def Ijoin : Inst := Jjoin Xjoin
theorem Ijoin_ok : InstOk Tryz.prog G.1 Ijoin := fun ⟨xs, sep, _⟩ y K ⟨bs, hx, hn, hl, hk⟩ w F ρ vs hG hlen hv hh => by
  subst hx
  have hl2 : vs.size = 2 := by
    have : 2 = vs.size := by simpa [Ijoin, Jjoin, PL.enc] using hlen
    omega
  have hl : (Lib.join (bs.map (·.data.toList)) sep.data.toList).length ≤ 100000000 := hl
  obtain ⟨v0, v1, rfl⟩ : ∃ v0 v1, vs = #[v0, v1] := by
    obtain ⟨l⟩ := vs
    match l, hl2 with
    | [a, b], _ => exact ⟨a, b, rfl⟩
  have h0 := hv 0 _ v0 rfl rfl
  have h1 := hv 1 _ v1 rfl rfl
  have h1' : v1 = .string sep := by
    have h1 : VR _ F ρ (.c (.string sep)) v1 := h1
    cases h1; rfl
  subst h1'
  have h0 : VR (clOf w) F ρ (.sl 1 false (bs.map cs)) v0 := h0
  cases h0 with
  | @sl _ _ _ a n cap g p cf hnn hc hf ha hw hF hvv =>
    have hnn' : n = bs.length := by rw [hnn, List.length_map]
    have key : Calls Tryz.prog 90 #[.slice a n cap, .string sep] w fun e w' => e = .returned (.string ⟨(Lib.join (bs.map (·.data.toList)) sep.data.toList).toArray⟩) ∧ Below w.heap.size w w' := by
      cases bs with
      | nil =>
        have : n = 0 := hnn'
        subst this
        exact (Tryz.strings_Join_none a cap sep w).mono fun e w' ⟨he, hw⟩ => ⟨he, by subst hw; exact Below.refl _ _⟩
      | cons b0 bs0 =>
        have ha' : a = some ⟨g, p, none⟩ := ha.resolve_left (by rw [hnn'] at hc; simp at hc; omega)
        subst ha'; subst hnn'
        have cell : ∀ (j : Nat) x, (b0 :: bs0)[j]? = some x → F g (p + j) ∧ w.cell? ⟨g, p + j, none⟩ = some (.string x) := by
          intro j x hj
          have hj' : ((b0 :: bs0).map cs)[j]? = some (cs x) := by rw [List.getElem?_map, hj]; rfl
          obtain ⟨q1, q2, q3⟩ := hF j (cs x) 0 hj' (by decide)
          have q4 := hvv j (cs x) 0 (cs x) hj' rfl
          rw [Nat.mul_one, Nat.add_zero] at q1 q2
          refine ⟨q1, ?_⟩
          have q5 : VR (clOf w) F ρ (.c (.string x)) (cf j 0) := q4
          generalize cf j 0 = z at q2 q5
          cases q5
          exact q2
        have hg : g < w.heap.size := hh.fin g (p + 0) (cell 0 b0 rfl).1
        exact Tryz.strings_Join g p cap (b0 :: bs0) sep w (fun j x hj => (cell j x hj).2) hg (by omega) hc (by omega)
    refine key.mono fun e w' ⟨he, hb⟩ => ?_
    exact ⟨_, [.c (.string ⟨(Lib.join (bs.map (·.data.toList)) sep.data.toList).toArray⟩)], [], F, ρ, he, .c rfl, back_below hb hh, (⟨(Lib.join (bs.map (·.data.toList)) sep.data.toList).toArray⟩, ()), (), rfl, rfl, hk⟩
/-- Where the table stands in memory, it stays. -/
theorem gs_of {w : World} (h : Lib.TabIs Tryz.prog w "internal/strconv.uint64pow10" .u64 Lib.pow10Tab) : ∃ G : Gs, ∀ x ∈ G.1, w.heap[x.1]? = some x.2 := by
  unfold Lib.TabIs World.var? at h
  cases hg : Tryz.prog.globalNamed "internal/strconv.uint64pow10" with
  | none => rw [hg] at h; cases h
  | some g =>
    rw [hg] at h
    simp only [Option.bind_some] at h
    cases ho : w.heap[g]? with
    | none => rw [ho] at h; cases h
    | some o =>
      rw [ho] at h
      refine ⟨⟨[(g, o)], fun w' hw => ?_⟩, fun x hx => ?_⟩
      · have := hw (g, o) (.head _)
        unfold Lib.TabIs World.var?
        rw [hg]
        simp only [Option.bind_some, this]
        exact h
      · simp only [List.mem_singleton] at hx
        subst hx; exact ho
theorem globN : Tryz.prog.globalNamed "internal/strconv.uint64pow10" = some 1 := by kernel_rfl
end Go.Proofs.YtoiiblhbojhogaaGreatDoor
end
section
set_option linter.unusedVariables false
set_option linter.unusedSimpArgs false
namespace Go.Proofs.YtoiiblhbojhogaaGreatDoor
open Go Go.Proofs.YtoiiblhbojhogaaGreatDoor.Eng
set_option linter.unusedVariables false
set_option maxRecDepth 100000
set_option maxHeartbeats 4000000
variable {G : Gs}
abbrev pL0 : PL := (.cons .str (.cons .str .nil))
abbrev pL1 : PL := (.cons (.int .i64) .nil)
abbrev Q2 : Type := (ByteArray × ByteArray × Int × Int × Unit × Unit × Int × Unit) × List Eng.V × Unit
abbrev pT3 : PT := (.cons 0 .str (.cons 1 .str (.cons 2 (.int .i64) (.cons 3 (.int .i64) (.cons 8 (.nl 0) (.cons 9 (.sla 560) (.cons 10 (.int .i64) .nil)))))))
abbrev pH4 : PH := (.cons 560 (.arr 1 true false) .nil)
abbrev pL5 : PL := (.cons .str (.cons .str (.cons (.int .i64) (.cons (.int .i64) .nil))))
abbrev pL6 : PL := (.cons (.sla 0) .nil)
abbrev pH7 : PH := (.cons 0 (.arrB 1) .nil)
abbrev pL8 : PL := (.cons .bool .nil)
abbrev pL9 : PL := (.cons .str .nil)
abbrev Q10 : Type := (Unit × Unit × Int × Int × Unit) × (List Eng.V × Bool × Bool) × Unit
abbrev pT11 : PT := (.cons 2 (.nl 0) (.cons 3 (.sla 176) (.cons 20 (.int .i64) (.cons 21 (.int .i64) .nil))))
abbrev pH12 : PH := (.cons 176 (.arrB 1) .nil)
abbrev Q13 : Type := (Unit × Nat × Int × Int × Unit) × (List Eng.V × Bool × Bool) × Unit
abbrev pT14 : PT := (.cons 2 (.nl 0) (.cons 3 (.slh 176) (.cons 20 (.int .i64) (.cons 21 (.int .i64) .nil))))
abbrev pL15 : PL := (.cons .str (.cons .str (.cons .bool .nil)))
abbrev Q16 : Type := (ByteArray × Unit × Int × Unit × Unit) × (ByteArray × Nat) × List Eng.V × Unit
abbrev pT17 : PT := (.cons 0 .str (.cons 2 (.sla 736) (.cons 3 (.int .i64) (.cons 9 (.it 208) .nil))))
abbrev pH18 : PH := (.cons 208 .iter (.cons 736 (.arr 1 true false) .nil))
abbrev Q19 : Type := (ByteArray × Unit × Unit × Int × Int × Unit) × List Eng.V × Unit
abbrev pT20 : PT := (.cons 2 .str (.cons 3 (.sla 176) (.cons 8 (.sla 176) (.cons 9 (.int .i64) (.cons 10 (.int .i64) .nil)))))
abbrev pH21 : PH := (.cons 176 (.arr 1 true false) .nil)
abbrev pL22 : PL := (.cons (.int .u64) .nil)
abbrev pL23 : PL := (.cons (.int .u64) (.cons (.int .u64) .nil))
abbrev pL24 : PL := (.cons (.int .i64) (.cons (.int .i64) .nil))
abbrev pL25 : PL := (.cons (.int .i64) (.cons .bool .nil))
abbrev Q26 : Type := (ByteArray × Int × Bool × Unit × Int × Int × Unit) × List Eng.V × Unit
abbrev pT27 : PT := (.cons 0 .str (.cons 2 (.int .i64) (.cons 3 .bool (.cons 11 (.sla 240) (.cons 12 (.int .i64) (.cons 13 (.int .i64) .nil))))))
abbrev pH28 : PH := (.cons 240 (.arr 1 true false) .nil)
abbrev Q29 : Type := ByteArray × ByteArray × ByteArray × ByteArray × ByteArray × ByteArray × ByteArray × ByteArray × ByteArray × ByteArray × ByteArray × ByteArray × Unit
abbrev pL30 : PL := (.cons (.agg (.cons .str (.cons .str (.cons .str (.cons .str (.cons .str (.cons .str (.cons .str (.cons .str (.cons .str (.cons .str (.cons .str (.cons .str .nil))))))))))))) .nil)
abbrev Q31 : Type := (Int × Bool × ByteArray × (ByteArray × ByteArray × ByteArray × ByteArray × ByteArray × ByteArray × ByteArray × ByteArray × ByteArray × ByteArray × ByteArray × ByteArray × Unit) × Int × Unit) × Unit
abbrev pT32 : PT := (.cons 2 (.int .i64) (.cons 3 .bool (.cons 4 .str (.cons 9 (.agg (.cons .str (.cons .str (.cons .str (.cons .str (.cons .str (.cons .str (.cons .str (.cons .str (.cons .str (.cons .str (.cons .str (.cons .str .nil))))))))))))) (.cons 10 (.int .i64) .nil)))))
abbrev pL33 : PL := (.cons .str (.cons .str (.cons (.int .i64) .nil)))
abbrev pL34 : PL := (.cons (.int .i64) (.cons (.int .i64) (.cons (.int .i64) .nil)))
abbrev Q35 : Type := (Int × Bool × Unit × Unit × Int × Int × Unit) × List Eng.V × (List Eng.V × Bool × Bool) × Unit
abbrev pT36 : PT := (.cons 2 (.int .i64) (.cons 3 .bool (.cons 4 (.pea 128) (.cons 15 (.sla 240) (.cons 16 (.int .i64) (.cons 17 (.int .i64) .nil))))))
abbrev pH37 : PH := (.cons 128 (.arr 3 true false) (.cons 240 (.arrB 1) .nil))
abbrev Q38 : Type := Int × Int × Int × Int × Int × ByteArray × Bool × Unit
abbrev pL39 : PL := (.cons (.int .i64) (.cons (.slN 1) .nil))
abbrev pL40 : PL := (.cons (.agg (.cons (.int .i64) (.cons (.int .i64) (.cons (.int .i64) (.cons (.int .i64) (.cons (.int .i64) (.cons .str (.cons .bool .nil)))))))) (.cons .bool .nil))
abbrev pL41 : PL := (.cons .bool (.cons .bool .nil))
abbrev pL42 : PL := (.cons (.slN 1) .nil)
abbrev pL43 : PL := (.cons (.int .i64) (.cons (.int .i64) (.cons .bool .nil)))
abbrev pL44 : PL := (.cons (.slN 3) .nil)
abbrev pH45 : PH := (.cons 0 (.arrB 3) .nil)
abbrev pL46 : PL := (.cons (.int .i64) (.cons (.int .i64) (.cons (.int .i64) (.cons .bool .nil))))
abbrev Q47 : Type := Int × Int × Bool × Unit
abbrev pL48 : PL := (.cons (.int .i64) (.cons (.agg (.cons (.int .i64) (.cons (.int .i64) (.cons .bool .nil)))) (.cons (.int .i64) .nil)))
abbrev Q49 : Type := List Eng.V × Bool × Int × Unit
abbrev Q50 : Type := (Unit × Int × Int × Int × List Eng.V × Int × Int × Unit) × (List Eng.V × Bool × Int × Unit) × Unit
abbrev pT51 : PT := (.cons 1 (.ptr 80 0) (.cons 2 (.int .i64) (.cons 3 (.int .i64) (.cons 4 (.int .i64) (.cons 11 (.slN 3) (.cons 12 (.int .i64) (.cons 13 (.int .i64) .nil)))))))
abbrev pH52 : PH := (.cons 80 (.cells [.sl 3, .bool, .int .i64] (.cons (.slN 3) (.cons .bool (.cons (.int .i64) .nil)))) .nil)
abbrev pL53 : PL := (.cons (.agg (.cons (.slN 3) (.cons .bool (.cons (.int .i64) .nil)))) .nil)
abbrev Q54 : Type := Unit × Bool × Int × Unit
abbrev pL55 : PL := (.cons (.agg (.cons (.slN 3) (.cons .bool (.cons (.int .i64) .nil)))) (.cons (.agg (.cons (.int .i64) (.cons (.int .i64) (.cons .bool .nil)))) .nil))
abbrev pL56 : PL := (.cons (.agg (.cons (.sla 0) (.cons .bool (.cons (.int .i64) .nil)))) (.cons (.int .i64) .nil))
abbrev pL57 : PL := (.cons (.ptr 0 0) (.cons (.agg (.cons (.int .i64) (.cons (.int .i64) (.cons (.int .i64) (.cons (.int .i64) (.cons (.int .i64) (.cons .str (.cons .bool .nil)))))))) (.cons (.int .i64) .nil)))
abbrev pH58 : PH := (.cons 0 (.cells [.sl 3, .bool, .int .i64, .int .i64, .int .i64] (.cons (.slN 3) (.cons .bool (.cons (.int .i64) (.cons (.int .i64) (.cons (.int .i64) .nil)))))) .nil)
abbrev pH59 : PH := (.cons 0 (.cells [.sl 3, .bool, .int .i64, .int .i64, .int .i64] (.cons (.sla 1) (.cons .bool (.cons (.int .i64) (.cons (.int .i64) (.cons (.int .i64) .nil)))))) (.cons 1 (.arrB 3) .nil))
abbrev pL60 : PL := (.cons (.ptr 0 0) (.cons (.int .i64) (.cons (.slN 1) .nil)))
abbrev Q61 : Type := Int × Int × Unit
abbrev Q62 : Type := (Unit × Unit × Unit × Unit × Int × Int × Unit) × (List Eng.V × Bool × Int × Unit) × (Int × Int × Unit) × (List Eng.V × Bool × Int × Int × Int × Unit) × (List Eng.V × Bool × Bool) × Unit
abbrev pT63 : PT := (.cons 2 (.ptr 96 0) (.cons 3 (.ptr 112 0) (.cons 4 (.ptr 128 0) (.cons 10 (.sla 224) (.cons 11 (.int .i64) (.cons 12 (.int .i64) .nil))))))
abbrev pH64 : PH := (.cons 96 (.cells [.sl 3, .bool, .int .i64] (.cons (.slN 3) (.cons .bool (.cons (.int .i64) .nil)))) (.cons 112 (.cells [.int .i64, .int .i64] (.cons (.int .i64) (.cons (.int .i64) .nil))) (.cons 128 (.cells [.sl 3, .bool, .int .i64, .int .i64, .int .i64] (.cons (.slN 3) (.cons .bool (.cons (.int .i64) (.cons (.int .i64) (.cons (.int .i64) .nil)))))) (.cons 224 (.arrB 1) .nil))))
abbrev pL65 : PL := (.cons (.agg (.cons (.sla 0) (.cons .bool (.cons (.int .i64) .nil)))) (.cons (.agg (.cons (.int .i64) (.cons (.int .i64) .nil))) .nil))
abbrev pL66 : PL := (.cons .str (.cons (.int .i64) (.cons (.slN 1) .nil)))
abbrev Q67 : Type := (Unit × ByteArray × Unit × Int × Int × Unit) × (List Eng.V × Bool × Bool) × List Eng.V × Unit
abbrev pT68 : PT := (.cons 1 (.sla 0) (.cons 4 .str (.cons 5 (.sla 208) (.cons 6 (.int .i64) (.cons 7 (.int .i64) .nil)))))
abbrev pH69 : PH := (.cons 0 (.arrB 1) (.cons 208 (.arr 1 true false) .nil))
abbrev pL70 : PL := (.cons .str (.cons (.sla 0) .nil))
abbrev pL71 : PL := (.cons .str (.cons .bool .nil))
abbrev Q72 : Type := (Unit × ByteArray × Bool × List Eng.V × Int × Int × Unit) × (List Eng.V × Bool × Int × Unit) × Unit
abbrev pT73 : PT := (.cons 1 (.ptr 80 0) (.cons 2 .str (.cons 3 .bool (.cons 15 (.slN 3) (.cons 16 (.int .i64) (.cons 17 (.int .i64) .nil))))))
abbrev Q74 : Type := (Unit × Unit × Bool × Int × Unit) × (List Eng.V × Bool × Int × Unit) × (List Eng.V × Bool × Int × Unit) × Unit
abbrev pT75 : PT := (.cons 2 (.ptr 96 0) (.cons 3 (.ptr 112 0) (.cons 4 .bool (.cons 5 (.int .i64) .nil))))
abbrev pH76 : PH := (.cons 96 (.cells [.sl 3, .bool, .int .i64] (.cons (.slN 3) (.cons .bool (.cons (.int .i64) .nil)))) (.cons 112 (.cells [.sl 3, .bool, .int .i64] (.cons (.slN 3) (.cons .bool (.cons (.int .i64) .nil)))) .nil))
abbrev pL77 : PL := (.cons (.agg (.cons (.slN 3) (.cons .bool (.cons (.int .i64) .nil)))) (.cons (.agg (.cons (.slN 3) (.cons .bool (.cons (.int .i64) .nil)))) .nil))
abbrev pT78 : PT := (.cons 0 .str (.cons 2 (.nl 0) (.cons 3 (.sla 672) (.cons 4 (.int .i64) (.cons 5 (.int .i64) .nil)))))
abbrev pH79 : PH := (.cons 672 (.arr 1 true false) .nil)
abbrev Q80 : Type := (ByteArray × ByteArray × ByteArray × ByteArray × Bool × Int × Unit) × Unit
abbrev pT81 : PT := (.cons 0 .str (.cons 1 .str (.cons 4 .str (.cons 5 .str (.cons 6 .bool (.cons 7 (.int .i64) .nil))))))
abbrev pL82 : PL := (.cons (.int .u8) .nil)
abbrev Q83 : Type := (ByteArray × Unit × Unit × Int × Unit) × List Eng.V × Unit
abbrev pT84 : PT := (.cons 0 .str (.cons 2 (.nl 0) (.cons 3 (.sla 672) (.cons 4 (.int .i64) .nil))))
abbrev Q85 : Type := (ByteArray × ByteArray × Unit × Int × Unit) × List Eng.V × Unit
abbrev pT86 : PT := (.cons 0 .str (.cons 2 .str (.cons 3 (.sla 528) (.cons 4 (.int .i64) .nil))))
abbrev pH87 : PH := (.cons 528 (.arr 1 true false) .nil)
abbrev Q88 : Type := (ByteArray × Int × Bool × Int × Int × Unit) × Unit
abbrev pT89 : PT := (.cons 0 .str (.cons 2 (.int .i64) (.cons 3 .bool (.cons 4 (.int .i64) (.cons 5 (.int .i64) .nil)))))
abbrev Q90 : Type := (Int × Bool × ByteArray × Unit × Int × Unit) × (List Eng.V × Bool × Bool) × Unit
abbrev pT91 : PT := (.cons 2 (.int .i64) (.cons 3 .bool (.cons 4 .str (.cons 5 (.sla 208) (.cons 6 (.int .i64) .nil)))))
abbrev pH92 : PH := (.cons 208 (.arrB 1) .nil)
abbrev pL93 : PL := (.cons (.agg (.cons (.int .i64) (.cons (.int .i64) (.cons (.int .i64) (.cons (.int .i64) (.cons (.int .i64) (.cons .str (.cons .bool .nil)))))))) .nil)
abbrev Q94 : Type := (Int × Int × Int × Bool × Int × Int × Unit) × Unit
abbrev pT95 : PT := (.cons 0 (.int .i64) (.cons 1 (.int .i64) (.cons 6 (.int .i64) (.cons 7 .bool (.cons 10 (.int .i64) (.cons 11 (.int .i64) .nil))))))
abbrev pL96 : PL := (.cons (.agg (.cons (.sla 0) (.cons .bool (.cons (.int .i64) .nil)))) .nil)
abbrev Q97 : Type := (Int × Int × Int × Int × Bool × Int × Unit) × Unit
abbrev Q98 : Type := (Int × Int × Int × Bool × Int × Int × Int × Unit) × Unit
abbrev pT99 : PT := (.cons 2 (.int .i64) (.cons 3 (.int .i64) (.cons 4 (.int .i64) (.cons 5 .bool (.cons 6 (.int .i64) (.cons 7 (.int .i64) (.cons 8 (.int .i64) .nil)))))))
abbrev pT100 : PT := (.cons 0 (.int .i64) (.cons 2 (.int .i64) (.cons 3 (.int .i64) (.cons 4 (.int .i64) (.cons 5 .bool (.cons 6 (.int .i64) .nil))))))
abbrev pL101 : PL := (.cons (.agg (.cons (.slN 3) (.cons .bool (.cons (.int .i64) .nil)))) (.cons (.int .i64) .nil))
abbrev Q102 : Type := (Unit × Int × Int × Int × Int × Unit) × (List Eng.V × Bool × Int × Unit) × Unit
abbrev pT103 : PT := (.cons 1 (.ptr 80 0) (.cons 2 (.int .i64) (.cons 3 (.int .i64) (.cons 4 (.int .i64) (.cons 5 (.int .i64) .nil)))))
abbrev pL104 : PL := (.cons (.agg (.cons (.slN 3) (.cons .bool (.cons (.int .i64) .nil)))) (.cons (.agg (.cons (.int .i64) (.cons (.int .i64) (.cons (.int .i64) (.cons (.int .i64) (.cons (.int .i64) (.cons .str (.cons .bool .nil)))))))) .nil))
abbrev Q105 : Type := (Unit × Unit × Unit × Unit × Int × Int × Int × Unit) × (List Eng.V × Bool × Int × Unit) × (Int × Int × Unit) × (List Eng.V × Bool × Int × Unit) × (List Eng.V × Bool × Bool) × Unit
abbrev pT106 : PT := (.cons 2 (.ptr 96 0) (.cons 3 (.ptr 112 0) (.cons 4 (.sla 288) (.cons 5 (.ptr 144 0) (.cons 6 (.int .i64) (.cons 7 (.int .i64) (.cons 8 (.int .i64) .nil)))))))
abbrev pH107 : PH := (.cons 96 (.cells [.sl 3, .bool, .int .i64] (.cons (.slN 3) (.cons .bool (.cons (.int .i64) .nil)))) (.cons 112 (.cells [.int .i64, .int .i64] (.cons (.int .i64) (.cons (.int .i64) .nil))) (.cons 144 (.cells [.sl 3, .bool, .int .i64] (.cons (.slN 3) (.cons .bool (.cons (.int .i64) .nil)))) (.cons 288 (.arrB 1) .nil))))
abbrev Q108 : Type := (Int × Int × ByteArray × ByteArray × Int × Unit) × Unit
abbrev pT109 : PT := (.cons 0 (.int .i64) (.cons 1 (.int .i64) (.cons 4 .str (.cons 5 .str (.cons 6 (.int .i64) .nil)))))
abbrev Q110 : Type := (Unit × ByteArray × Bool × ByteArray × Int × Unit) × (List Eng.V × Bool × Int × Unit) × Unit
abbrev pT111 : PT := (.cons 1 (.ptr 80 0) (.cons 2 .str (.cons 3 .bool (.cons 4 .str (.cons 5 (.int .i64) .nil)))))
abbrev pL112 : PL := (.cons .str (.cons (.agg (.cons (.slN 3) (.cons .bool (.cons (.int .i64) .nil)))) (.cons .str .nil)))
/- internal/stringslite.Index -/
abbrev Tinternal_stringslite_Index : Type := ByteArray → ByteArray → (Int → Prop) → Prop
def Yinternal_stringslite_Index (xindexByte : TindexByte) (a0 : ByteArray) (a1 : ByteArray) (K : Int → Prop) : Prop :=
 (if ((↑(ByteArray.size a1) : Int) == 0) then
 K 0
 else
 (if (ByteArray.toList a1 == ByteArray.toList a0) then
 K 0
 else
 (if ((↑(ByteArray.size a1) : Int) == 1) then
 (if (0 :Int) ≤ 0 ∧ 0 < (↑(ByteArray.size a1) : Int) then
 xindexByte a0 (Eng.bAt a1 (0 : Nat)) (fun r2 =>
 K r2)
 else
 False)
 else
 (if decide ((↑(ByteArray.size a1) : Int) ≥ (↑(ByteArray.size a0) : Int)) then
 K (-1)
 else
 False))))
def Xinternal_stringslite_Index : Tinternal_stringslite_Index := Yinternal_stringslite_Index XindexByte
def Jinternal_stringslite_Index (X : Tinternal_stringslite_Index) : Inst := mkI 115 pL0 .nil pL1 .nil X
def Iinternal_stringslite_Index : Inst := Jinternal_stringslite_Index Xinternal_stringslite_Index
theorem Einternal_stringslite_Index (xindexByte : TindexByte) : EqF Tryz.prog 143 gives Tryz.f115 [JindexByte xindexByte] [] (Jinternal_stringslite_Index (Yinternal_stringslite_Index xindexByte)) := fun x y K => by kernel_rfl
theorem Iinternal_stringslite_Index_ok : InstOk Tryz.prog G.1 Iinternal_stringslite_Index := iok (gives := gives) [] (okCons IindexByte_ok okNil) 143 follows Tryz.func115 (by kernel_rfl) (fun x => by kernel_rfl) (Einternal_stringslite_Index XindexByte)

/- strings.Index -/
abbrev Tstrings_Index : Type := ByteArray → ByteArray → (Int → Prop) → Prop
def Ystrings_Index (xinternal_stringslite_Index : Tinternal_stringslite_Index) (a0 : ByteArray) (a1 : ByteArray) (K : Int → Prop) : Prop :=
 xinternal_stringslite_Index a0 a1 (fun r2 =>
 K r2)
def Xstrings_Index : Tstrings_Index := Ystrings_Index Xinternal_stringslite_Index
def Jstrings_Index (X : Tstrings_Index) : Inst := mkI 130 pL0 .nil pL1 .nil X
def Istrings_Index : Inst := Jstrings_Index Xstrings_Index
theorem Estrings_Index (xinternal_stringslite_Index : Tinternal_stringslite_Index) : EqF Tryz.prog 8 gives Tryz.f130 [Jinternal_stringslite_Index xinternal_stringslite_Index] [] (Jstrings_Index (Ystrings_Index xinternal_stringslite_Index)) := fun x y K => by kernel_rfl
theorem Istrings_Index_ok : InstOk Tryz.prog G.1 Istrings_Index := iok (gives := gives) [] (okCons Iinternal_stringslite_Index_ok okNil) 8 follows Tryz.func130 (by kernel_rfl) (fun x => by kernel_rfl) (Estrings_Index Xinternal_stringslite_Index)

/- strings.genSplit -/
abbrev Tstrings_genSplit : Type := ByteArray → ByteArray → Int → Int → ((List Eng.V) → Bool → Bool → Prop) → Prop
def Lstrings_genSplit_0 (xstrings_Index : Tstrings_Index) (K : (List Eng.V) → Bool → Bool → Prop) : (Q2 → Prop) → Q2 → Prop := fun k6 x7 =>
 (if decide (x7.1.2.2.2.2.2.2.1 < x7.1.2.2.2.1) then
 xstrings_Index x7.1.1 x7.1.2.1 (fun r8 =>
 (if decide (r8 < 0) then
 (if 0 ≤ x7.1.2.2.2.2.2.2.1 ∧ x7.1.2.2.2.2.2.2.1 < (↑(List.length x7.2.1) : Int) then
 (if Int.toNat x7.1.2.2.2.2.2.2.1 < List.length x7.2.1 then
 (if 0 ≤ w64 (x7.1.2.2.2.2.2.2.1 + 1) ∧ w64 (x7.1.2.2.2.2.2.2.1 + 1) ≤ (↑(List.length (List.set x7.2.1 (Int.toNat x7.1.2.2.2.2.2.2.1) (Eng.setE (List.getD x7.2.1 (Int.toNat x7.1.2.2.2.2.2.2.1) Eng.V.bad) (0 : Nat) [Eng.V.c (Value.string x7.1.1)]))) : Int) then
 (if (0 :Int) ≤ 0 ∧ 0 ≤ w64 (x7.1.2.2.2.2.2.2.1 + 1) then
 (if Nat.ble (Int.toNat (w64 (x7.1.2.2.2.2.2.2.1 + 1)) - (0 : Nat)) (List.length (List.set x7.2.1 (Int.toNat x7.1.2.2.2.2.2.2.1) (Eng.setE (List.getD x7.2.1 (Int.toNat x7.1.2.2.2.2.2.2.1) Eng.V.bad) (0 : Nat) [Eng.V.c (Value.string x7.1.1)]))) then
 (lt (List.take (Int.toNat (w64 (x7.1.2.2.2.2.2.2.1 + 1)) - (0 : Nat)) (List.set x7.2.1 (Int.toNat x7.1.2.2.2.2.2.2.1) (Eng.setE (List.getD x7.2.1 (Int.toNat x7.1.2.2.2.2.2.2.1) Eng.V.bad) (0 : Nat) [Eng.V.c (Value.string x7.1.1)]))) fun v9 =>
 K v9 true false)
 else
 K (Eng.cutL (List.set x7.2.1 (Int.toNat x7.1.2.2.2.2.2.2.1) (Eng.setE (List.getD x7.2.1 (Int.toNat x7.1.2.2.2.2.2.2.1) Eng.V.bad) (0 : Nat) [Eng.V.c (Value.string x7.1.1)])) (0 : Nat) (Int.toNat (w64 (x7.1.2.2.2.2.2.2.1 + 1)) - (0 : Nat))) false true)
 else
 False)
 else
 False)
 else
 False)
 else
 False)
 else
 (if 0 ≤ w64 (r8 + x7.1.2.2.1) ∧ w64 (r8 + x7.1.2.2.1) ≤ (↑(ByteArray.size x7.1.1) : Int) then
 (if (0 :Int) ≤ 0 ∧ 0 ≤ w64 (r8 + x7.1.2.2.1) then
 (lt (ByteArray.extract x7.1.1 (0 : Nat) (Int.toNat (w64 (r8 + x7.1.2.2.1)))) fun v10 =>
 (if 0 ≤ x7.1.2.2.2.2.2.2.1 ∧ x7.1.2.2.2.2.2.2.1 < (↑(List.length x7.2.1) : Int) then
 (if Int.toNat x7.1.2.2.2.2.2.2.1 < List.length x7.2.1 then
 (if 0 ≤ (↑(ByteArray.size x7.1.1) : Int) ∧ (↑(ByteArray.size x7.1.1) : Int) ≤ (↑(ByteArray.size x7.1.1) : Int) then
 (if 0 ≤ w64 (r8 + (↑(ByteArray.size x7.1.2.1) : Int)) ∧ w64 (r8 + (↑(ByteArray.size x7.1.2.1) : Int)) ≤ (↑(ByteArray.size x7.1.1) : Int) then
 (lt (ByteArray.extract x7.1.1 (Int.toNat (w64 (r8 + (↑(ByteArray.size x7.1.2.1) : Int)))) (Int.toNat (↑(ByteArray.size x7.1.1) : Int))) fun v11 =>
 k6 ((v11, x7.1.2.1, x7.1.2.2.1, x7.1.2.2.2.1, (), (), w64 (x7.1.2.2.2.2.2.2.1 + 1), ()), List.set x7.2.1 (Int.toNat x7.1.2.2.2.2.2.2.1) (Eng.setE (List.getD x7.2.1 (Int.toNat x7.1.2.2.2.2.2.2.1) Eng.V.bad) (0 : Nat) [Eng.V.c (Value.string v10)]), ()))
 else
 False)
 else
 False)
 else
 False)
 else
 False))
 else
 False)
 else
 False)))
 else
 (if 0 ≤ x7.1.2.2.2.2.2.2.1 ∧ x7.1.2.2.2.2.2.2.1 < (↑(List.length x7.2.1) : Int) then
 (if Int.toNat x7.1.2.2.2.2.2.2.1 < List.length x7.2.1 then
 (if 0 ≤ w64 (x7.1.2.2.2.2.2.2.1 + 1) ∧ w64 (x7.1.2.2.2.2.2.2.1 + 1) ≤ (↑(List.length (List.set x7.2.1 (Int.toNat x7.1.2.2.2.2.2.2.1) (Eng.setE (List.getD x7.2.1 (Int.toNat x7.1.2.2.2.2.2.2.1) Eng.V.bad) (0 : Nat) [Eng.V.c (Value.string x7.1.1)]))) : Int) then
 (if (0 :Int) ≤ 0 ∧ 0 ≤ w64 (x7.1.2.2.2.2.2.2.1 + 1) then
 (if Nat.ble (Int.toNat (w64 (x7.1.2.2.2.2.2.2.1 + 1)) - (0 : Nat)) (List.length (List.set x7.2.1 (Int.toNat x7.1.2.2.2.2.2.2.1) (Eng.setE (List.getD x7.2.1 (Int.toNat x7.1.2.2.2.2.2.2.1) Eng.V.bad) (0 : Nat) [Eng.V.c (Value.string x7.1.1)]))) then
 (lt (List.take (Int.toNat (w64 (x7.1.2.2.2.2.2.2.1 + 1)) - (0 : Nat)) (List.set x7.2.1 (Int.toNat x7.1.2.2.2.2.2.2.1) (Eng.setE (List.getD x7.2.1 (Int.toNat x7.1.2.2.2.2.2.2.1) Eng.V.bad) (0 : Nat) [Eng.V.c (Value.string x7.1.1)]))) fun v12 =>
 K v12 true false)
 else
 K (Eng.cutL (List.set x7.2.1 (Int.toNat x7.1.2.2.2.2.2.2.1) (Eng.setE (List.getD x7.2.1 (Int.toNat x7.1.2.2.2.2.2.2.1) Eng.V.bad) (0 : Nat) [Eng.V.c (Value.string x7.1.1)])) (0 : Nat) (Int.toNat (w64 (x7.1.2.2.2.2.2.2.1 + 1)) - (0 : Nat))) false true)
 else
 False)
 else
 False)
 else
 False)
 else
 False))
def Lstrings_genSplit_0p : Lp := ⟨1807, [.trim 1807], pT3, pH4, 0⟩
def Ystrings_genSplit (xcount : Tcount) (xstrings_Index : Tstrings_Index) (a0 : ByteArray) (a1 : ByteArray) (a2 : Int) (a3 : Int) (K : (List Eng.V) → Bool → Bool → Prop) : Prop :=
 (if (a3 == 0) then
 K [] true true
 else
 (if (ByteArray.toList a1 == ByteArray.toList (ByteArray.mk #[])) then
 False
 else
 (if decide (a3 < 0) then
 xcount a0 a1 (fun r4 =>
 (lt (if w64 ((↑(ByteArray.size a0) : Int) + 1) < w64 (r4 + 1) then w64 ((↑(ByteArray.size a0) : Int) + 1) else w64 (r4 + 1)) fun v5 =>
 (if 0 ≤ v5 ∧ v5 ≤ v5 ∧ v5 ≤ 4294967296 then
 lp (Lstrings_genSplit_0 xstrings_Index K) ((a0, a1, a2, w64 (v5 - 1), (), (), 0, ()), List.replicate (Int.toNat v5) (Eng.ofVal (Value.string (ByteArray.mk #[]))), ())
 else
 False)))
 else
 (lt (if w64 ((↑(ByteArray.size a0) : Int) + 1) < a3 then w64 ((↑(ByteArray.size a0) : Int) + 1) else a3) fun v13 =>
 (if 0 ≤ v13 ∧ v13 ≤ v13 ∧ v13 ≤ 4294967296 then
 lp (Lstrings_genSplit_0 xstrings_Index K) ((a0, a1, a2, w64 (v13 - 1), (), (), 0, ()), List.replicate (Int.toNat v13) (Eng.ofVal (Value.string (ByteArray.mk #[]))), ())
 else
 False)))))
def Xstrings_genSplit : Tstrings_genSplit := Ystrings_genSplit Xcount Xstrings_Index
def Jstrings_genSplit (X : Tstrings_genSplit) : Inst := mkI 99 pL5 .nil pL6 pH7 X
def Istrings_genSplit : Inst := Jstrings_genSplit Xstrings_genSplit
theorem Estrings_genSplit (xcount : Tcount) (xstrings_Index : Tstrings_Index) : EqF Tryz.prog 66 gives Tryz.f99 [Jcount xcount, Jstrings_Index xstrings_Index] [Lstrings_genSplit_0p] (Jstrings_genSplit (Ystrings_genSplit xcount xstrings_Index)) := fun x y K => by kernel_rfl
theorem Istrings_genSplit_ok : InstOk Tryz.prog G.1 Istrings_genSplit := iok (gives := gives) [Lstrings_genSplit_0p] (okCons Icount_ok (okCons Istrings_Index_ok okNil)) 66 follows Tryz.func99 (by kernel_rfl) (fun x => by kernel_rfl) (Estrings_genSplit Xcount Xstrings_Index)

/- strings.Split -/
abbrev Tstrings_Split : Type := ByteArray → ByteArray → ((List Eng.V) → Bool → Bool → Prop) → Prop
def Ystrings_Split (xstrings_genSplit : Tstrings_genSplit) (a0 : ByteArray) (a1 : ByteArray) (K : (List Eng.V) → Bool → Bool → Prop) : Prop :=
 xstrings_genSplit a0 a1 0 (-1) (fun r2 r3 r4 =>
 K r2 r3 r4)
def Xstrings_Split : Tstrings_Split := Ystrings_Split Xstrings_genSplit
def Jstrings_Split (X : Tstrings_Split) : Inst := mkI 75 pL0 .nil pL6 pH7 X
def Istrings_Split : Inst := Jstrings_Split Xstrings_Split
theorem Estrings_Split (xstrings_genSplit : Tstrings_genSplit) : EqF Tryz.prog 8 gives Tryz.f75 [Jstrings_genSplit xstrings_genSplit] [] (Jstrings_Split (Ystrings_Split xstrings_genSplit)) := fun x y K => by kernel_rfl
theorem Istrings_Split_ok : InstOk Tryz.prog G.1 Istrings_Split := iok (gives := gives) [] (okCons Istrings_genSplit_ok okNil) 8 follows Tryz.func75 (by kernel_rfl) (fun x => by kernel_rfl) (Estrings_Split Xstrings_genSplit)

/- internal/stringslite.HasSuffix -/
abbrev Tinternal_stringslite_HasSuffix : Type := ByteArray → ByteArray → (Bool → Prop) → Prop
def Yinternal_stringslite_HasSuffix (a0 : ByteArray) (a1 : ByteArray) (K : Bool → Prop) : Prop :=
 (if decide ((↑(ByteArray.size a0) : Int) ≥ (↑(ByteArray.size a1) : Int)) then
 (if 0 ≤ (↑(ByteArray.size a0) : Int) ∧ (↑(ByteArray.size a0) : Int) ≤ (↑(ByteArray.size a0) : Int) then
 (if 0 ≤ w64 ((↑(ByteArray.size a0) : Int) - (↑(ByteArray.size a1) : Int)) ∧ w64 ((↑(ByteArray.size a0) : Int) - (↑(ByteArray.size a1) : Int)) ≤ (↑(ByteArray.size a0) : Int) then
 (lt (ByteArray.extract a0 (Int.toNat (w64 ((↑(ByteArray.size a0) : Int) - (↑(ByteArray.size a1) : Int)))) (Int.toNat (↑(ByteArray.size a0) : Int))) fun v2 =>
 K (ByteArray.toList v2 == ByteArray.toList a1))
 else
 False)
 else
 False)
 else
 K false)
def Xinternal_stringslite_HasSuffix : Tinternal_stringslite_HasSuffix := Yinternal_stringslite_HasSuffix
def Jinternal_stringslite_HasSuffix (X : Tinternal_stringslite_HasSuffix) : Inst := mkI 144 pL0 .nil pL8 .nil X
def Iinternal_stringslite_HasSuffix : Inst := Jinternal_stringslite_HasSuffix Xinternal_stringslite_HasSuffix
theorem Einternal_stringslite_HasSuffix : EqF Tryz.prog 21 gives Tryz.f144 [] [] (Jinternal_stringslite_HasSuffix (Yinternal_stringslite_HasSuffix)) := fun x y K => by kernel_rfl
theorem Iinternal_stringslite_HasSuffix_ok : InstOk Tryz.prog G.1 Iinternal_stringslite_HasSuffix := iok (gives := gives) [] okNil 21 follows Tryz.func144 (by kernel_rfl) (fun x => by kernel_rfl) (Einternal_stringslite_HasSuffix)

/- internal/stringslite.TrimSuffix -/
abbrev Tinternal_stringslite_TrimSuffix : Type := ByteArray → ByteArray → (ByteArray → Prop) → Prop
def Yinternal_stringslite_TrimSuffix (xinternal_stringslite_HasSuffix : Tinternal_stringslite_HasSuffix) (a0 : ByteArray) (a1 : ByteArray) (K : ByteArray → Prop) : Prop :=
 xinternal_stringslite_HasSuffix a0 a1 (fun r2 =>
 (if r2 then
 (if 0 ≤ w64 ((↑(ByteArray.size a0) : Int) - (↑(ByteArray.size a1) : Int)) ∧ w64 ((↑(ByteArray.size a0) : Int) - (↑(ByteArray.size a1) : Int)) ≤ (↑(ByteArray.size a0) : Int) then
 (if (0 :Int) ≤ 0 ∧ 0 ≤ w64 ((↑(ByteArray.size a0) : Int) - (↑(ByteArray.size a1) : Int)) then
 (lt (ByteArray.extract a0 (0 : Nat) (Int.toNat (w64 ((↑(ByteArray.size a0) : Int) - (↑(ByteArray.size a1) : Int))))) fun v3 =>
 K v3)
 else
 False)
 else
 False)
 else
 K a0))
def Xinternal_stringslite_TrimSuffix : Tinternal_stringslite_TrimSuffix := Yinternal_stringslite_TrimSuffix Xinternal_stringslite_HasSuffix
def Jinternal_stringslite_TrimSuffix (X : Tinternal_stringslite_TrimSuffix) : Inst := mkI 114 pL0 .nil pL9 .nil X
def Iinternal_stringslite_TrimSuffix : Inst := Jinternal_stringslite_TrimSuffix Xinternal_stringslite_TrimSuffix
theorem Einternal_stringslite_TrimSuffix (xinternal_stringslite_HasSuffix : Tinternal_stringslite_HasSuffix) : EqF Tryz.prog 16 gives Tryz.f114 [Jinternal_stringslite_HasSuffix xinternal_stringslite_HasSuffix] [] (Jinternal_stringslite_TrimSuffix (Yinternal_stringslite_TrimSuffix xinternal_stringslite_HasSuffix)) := fun x y K => by kernel_rfl
theorem Iinternal_stringslite_TrimSuffix_ok : InstOk Tryz.prog G.1 Iinternal_stringslite_TrimSuffix := iok (gives := gives) [] (okCons Iinternal_stringslite_HasSuffix_ok okNil) 16 follows Tryz.func114 (by kernel_rfl) (fun x => by kernel_rfl) (Einternal_stringslite_TrimSuffix Xinternal_stringslite_HasSuffix)

/- strings.TrimSuffix -/
abbrev Tstrings_TrimSuffix : Type := ByteArray → ByteArray → (ByteArray → Prop) → Prop
def Ystrings_TrimSuffix (xinternal_stringslite_TrimSuffix : Tinternal_stringslite_TrimSuffix) (a0 : ByteArray) (a1 : ByteArray) (K : ByteArray → Prop) : Prop :=
 xinternal_stringslite_TrimSuffix a0 a1 (fun r2 =>
 K r2)
def Xstrings_TrimSuffix : Tstrings_TrimSuffix := Ystrings_TrimSuffix Xinternal_stringslite_TrimSuffix
def Jstrings_TrimSuffix (X : Tstrings_TrimSuffix) : Inst := mkI 76 pL0 .nil pL9 .nil X
def Istrings_TrimSuffix : Inst := Jstrings_TrimSuffix Xstrings_TrimSuffix
theorem Estrings_TrimSuffix (xinternal_stringslite_TrimSuffix : Tinternal_stringslite_TrimSuffix) : EqF Tryz.prog 8 gives Tryz.f76 [Jinternal_stringslite_TrimSuffix xinternal_stringslite_TrimSuffix] [] (Jstrings_TrimSuffix (Ystrings_TrimSuffix xinternal_stringslite_TrimSuffix)) := fun x y K => by kernel_rfl
theorem Istrings_TrimSuffix_ok : InstOk Tryz.prog G.1 Istrings_TrimSuffix := iok (gives := gives) [] (okCons Iinternal_stringslite_TrimSuffix_ok okNil) 8 follows Tryz.func76 (by kernel_rfl) (fun x => by kernel_rfl) (Estrings_TrimSuffix Xinternal_stringslite_TrimSuffix)

/- epact/lines.Split -/
abbrev Tlines_Split : Type := ByteArray → ((List Eng.V) → Bool → Bool → Prop) → Prop
def Llines_Split_1 (xstrings_TrimSuffix : Tstrings_TrimSuffix) (K : (List Eng.V) → Bool → Bool → Prop) : (Q10 → Prop) → Q10 → Prop := fun k10 x11 =>
 (if decide (x11.1.2.2.2.1 < x11.1.2.2.1) then
 (if 0 ≤ x11.1.2.2.2.1 ∧ x11.1.2.2.2.1 < (↑(List.length x11.2.1.1) : Int) then
 (Eng.asStr (Eng.getC x11.2.1.1 (Int.toNat x11.1.2.2.2.1) (0 : Nat)) False fun t12 =>
 xstrings_TrimSuffix t12 (ByteArray.mk #[(13 : UInt8)]) (fun r13 =>
 (if 0 ≤ x11.1.2.2.2.1 ∧ x11.1.2.2.2.1 < (↑(List.length x11.2.1.1) : Int) then
 (if x11.2.1.2.2 = false then
 (if Int.toNat x11.1.2.2.2.1 < List.length x11.2.1.1 then
 k10 (((), (), x11.1.2.2.1, w64 (x11.1.2.2.2.1 + 1), ()), (List.set x11.2.1.1 (Int.toNat x11.1.2.2.2.1) (Eng.setE (List.getD x11.2.1.1 (Int.toNat x11.1.2.2.2.1) Eng.V.bad) (0 : Nat) [Eng.V.c (Value.string r13)]), x11.2.1.2), ())
 else
 False)
 else
 False)
 else
 False)))
 else
 False)
 else
 K x11.2.1.1 x11.2.1.2.1 x11.2.1.2.2)
def Llines_Split_1p : Lp := ⟨3145740, [.trim 3145740], pT11, pH12, 0⟩
def Llines_Split_0 (xstrings_TrimSuffix : Tstrings_TrimSuffix) (K : (List Eng.V) → Bool → Bool → Prop) : (Q13 → Prop) → Q13 → Prop := fun k5 x6 =>
 (if decide (x6.1.2.2.2.1 < x6.1.2.2.1) then
 (if 0 ≤ x6.1.2.2.2.1 ∧ x6.1.2.2.2.1 < (↑(x6.1.2.1) : Int) then
 (Eng.asStr (Eng.getC x6.2.1.1 ((0 : Nat) + Int.toNat x6.1.2.2.2.1) (0 : Nat)) False fun t7 =>
 xstrings_TrimSuffix t7 (ByteArray.mk #[(13 : UInt8)]) (fun r8 =>
 (if 0 ≤ x6.1.2.2.2.1 ∧ x6.1.2.2.2.1 < (↑(x6.1.2.1) : Int) then
 (if x6.2.1.2.2 = false then
 (if (0 : Nat) + Int.toNat x6.1.2.2.2.1 < List.length x6.2.1.1 then
 (lt (List.set x6.2.1.1 ((0 : Nat) + Int.toNat x6.1.2.2.2.1) (Eng.setE (List.getD x6.2.1.1 ((0 : Nat) + Int.toNat x6.1.2.2.2.1) Eng.V.bad) (0 : Nat) [Eng.V.c (Value.string r8)])) fun v9 =>
 k5 (((), x6.1.2.1, x6.1.2.2.1, w64 (x6.1.2.2.2.1 + 1), ()), (v9, x6.2.1.2), ()))
 else
 False)
 else
 False)
 else
 False)))
 else
 False)
 else
 (if x6.2.1.2.1 then
 (if x6.2.1.2.2 = false then
 (if Nat.ble x6.1.2.1 (List.length x6.2.1.1) then
 K (List.take x6.1.2.1 x6.2.1.1) true false
 else
 K (Eng.cutL x6.2.1.1 (0 : Nat) x6.1.2.1) false true)
 else
 K (Eng.cutL x6.2.1.1 (0 : Nat) x6.1.2.1) false true)
 else
 K (Eng.cutL x6.2.1.1 (0 : Nat) x6.1.2.1) false true))
def Llines_Split_0p : Lp := ⟨3145740, [.trim 3145740], pT14, pH12, 0⟩
def Ylines_Split (xstrings_Split : Tstrings_Split) (xstrings_TrimSuffix : Tstrings_TrimSuffix) (a0 : ByteArray) (K : (List Eng.V) → Bool → Bool → Prop) : Prop :=
 xstrings_Split a0 (ByteArray.mk #[(10 : UInt8)]) (fun r1 r2 r3 =>
 (if 0 ≤ w64 ((↑(List.length r1) : Int) - 1) ∧ w64 ((↑(List.length r1) : Int) - 1) < (↑(List.length r1) : Int) then
 (Eng.asStr (Eng.getC r1 (Int.toNat (w64 ((↑(List.length r1) : Int) - 1))) (0 : Nat)) False fun t4 =>
 (if (ByteArray.toList t4 == ByteArray.toList (ByteArray.mk #[])) then
 (if 0 ≤ w64 ((↑(List.length r1) : Int) - 1) ∧ w64 ((↑(List.length r1) : Int) - 1) ≤ (↑(List.length r1) : Int) then
 (if (0 :Int) ≤ 0 ∧ 0 ≤ w64 ((↑(List.length r1) : Int) - 1) then
 lp (Llines_Split_0 xstrings_TrimSuffix K) (((), Int.toNat (w64 ((↑(List.length r1) : Int) - 1)) - (0 : Nat), (↑(Int.toNat (w64 ((↑(List.length r1) : Int) - 1)) - (0 : Nat)) : Int), 0, ()), (r1, r2, r3), ())
 else
 False)
 else
 False)
 else
 lp (Llines_Split_1 xstrings_TrimSuffix K) (((), (), (↑(List.length r1) : Int), 0, ()), (r1, r2, r3), ())))
 else
 False))
def Xlines_Split : Tlines_Split := Ylines_Split Xstrings_Split Xstrings_TrimSuffix
def Jlines_Split (X : Tlines_Split) : Inst := mkI 24 pL9 .nil pL6 pH7 X
def Ilines_Split : Inst := Jlines_Split Xlines_Split
theorem Elines_Split (xstrings_Split : Tstrings_Split) (xstrings_TrimSuffix : Tstrings_TrimSuffix) : EqF Tryz.prog 34 gives Tryz.f24 [Jstrings_Split xstrings_Split, Jstrings_TrimSuffix xstrings_TrimSuffix] [Llines_Split_0p, Llines_Split_1p] (Jlines_Split (Ylines_Split xstrings_Split xstrings_TrimSuffix)) := fun x y K => by kernel_rfl
theorem Ilines_Split_ok : InstOk Tryz.prog G.1 Ilines_Split := iok (gives := gives) [Llines_Split_0p, Llines_Split_1p] (okCons Istrings_Split_ok (okCons Istrings_TrimSuffix_ok okNil)) 34 follows Tryz.func24 (by kernel_rfl) (fun x => by kernel_rfl) (Elines_Split Xstrings_Split Xstrings_TrimSuffix)

/- internal/stringslite.Cut -/
abbrev Tinternal_stringslite_Cut : Type := ByteArray → ByteArray → (ByteArray → ByteArray → Bool → Prop) → Prop
def Yinternal_stringslite_Cut (xinternal_stringslite_Index : Tinternal_stringslite_Index) (a0 : ByteArray) (a1 : ByteArray) (K : ByteArray → ByteArray → Bool → Prop) : Prop :=
 xinternal_stringslite_Index a0 a1 (fun r2 =>
 (if decide (r2 ≥ 0) then
 (if 0 ≤ r2 ∧ r2 ≤ (↑(ByteArray.size a0) : Int) then
 (if (0 :Int) ≤ 0 ∧ 0 ≤ r2 then
 (if 0 ≤ (↑(ByteArray.size a0) : Int) ∧ (↑(ByteArray.size a0) : Int) ≤ (↑(ByteArray.size a0) : Int) then
 (if 0 ≤ w64 (r2 + (↑(ByteArray.size a1) : Int)) ∧ w64 (r2 + (↑(ByteArray.size a1) : Int)) ≤ (↑(ByteArray.size a0) : Int) then
 (lt (ByteArray.extract a0 (Int.toNat (w64 (r2 + (↑(ByteArray.size a1) : Int)))) (Int.toNat (↑(ByteArray.size a0) : Int))) fun v3 =>
 K (ByteArray.extract a0 (0 : Nat) (Int.toNat r2)) v3 true)
 else
 False)
 else
 False)
 else
 False)
 else
 False)
 else
 K a0 (ByteArray.mk #[]) false))
def Xinternal_stringslite_Cut : Tinternal_stringslite_Cut := Yinternal_stringslite_Cut Xinternal_stringslite_Index
def Jinternal_stringslite_Cut (X : Tinternal_stringslite_Cut) : Inst := mkI 77 pL0 .nil pL15 .nil X
def Iinternal_stringslite_Cut : Inst := Jinternal_stringslite_Cut Xinternal_stringslite_Cut
theorem Einternal_stringslite_Cut (xinternal_stringslite_Index : Tinternal_stringslite_Index) : EqF Tryz.prog 23 gives Tryz.f77 [Jinternal_stringslite_Index xinternal_stringslite_Index] [] (Jinternal_stringslite_Cut (Yinternal_stringslite_Cut xinternal_stringslite_Index)) := fun x y K => by kernel_rfl
theorem Iinternal_stringslite_Cut_ok : InstOk Tryz.prog G.1 Iinternal_stringslite_Cut := iok (gives := gives) [] (okCons Iinternal_stringslite_Index_ok okNil) 23 follows Tryz.func77 (by kernel_rfl) (fun x => by kernel_rfl) (Einternal_stringslite_Cut Xinternal_stringslite_Index)

/- strings.Cut -/
abbrev Tstrings_Cut : Type := ByteArray → ByteArray → (ByteArray → ByteArray → Bool → Prop) → Prop
def Ystrings_Cut (xinternal_stringslite_Cut : Tinternal_stringslite_Cut) (a0 : ByteArray) (a1 : ByteArray) (K : ByteArray → ByteArray → Bool → Prop) : Prop :=
 xinternal_stringslite_Cut a0 a1 (fun r2 r3 r4 =>
 K r2 r3 r4)
def Xstrings_Cut : Tstrings_Cut := Ystrings_Cut Xinternal_stringslite_Cut
def Jstrings_Cut (X : Tstrings_Cut) : Inst := mkI 25 pL0 .nil pL15 .nil X
def Istrings_Cut : Inst := Jstrings_Cut Xstrings_Cut
theorem Estrings_Cut (xinternal_stringslite_Cut : Tinternal_stringslite_Cut) : EqF Tryz.prog 13 gives Tryz.f25 [Jinternal_stringslite_Cut xinternal_stringslite_Cut] [] (Jstrings_Cut (Ystrings_Cut xinternal_stringslite_Cut)) := fun x y K => by kernel_rfl
theorem Istrings_Cut_ok : InstOk Tryz.prog G.1 Istrings_Cut := iok (gives := gives) [] (okCons Iinternal_stringslite_Cut_ok okNil) 13 follows Tryz.func25 (by kernel_rfl) (fun x => by kernel_rfl) (Estrings_Cut Xinternal_stringslite_Cut)

/- epact/lines.Words -/
abbrev Tlines_Words : Type := ByteArray → ((List Eng.V) → Bool → Bool → Prop) → Prop
def Llines_Words_0 (K : (List Eng.V) → Bool → Bool → Prop) : (Q16 → Prop) → Q16 → Prop := fun k1 x2 =>
 (if x2.2.1.2 < ByteArray.size x2.2.1.1 then
 (if ((↑(Prod.fst (Go.Utf8.decode x2.2.1.1 x2.2.1.2)) : Int) == 32) then
 (if decide (x2.1.2.2.1 ≥ 0) then
 (if 0 ≤ (↑(x2.2.1.2) : Int) ∧ (↑(x2.2.1.2) : Int) ≤ (↑(ByteArray.size x2.1.1) : Int) then
 (if 0 ≤ x2.1.2.2.1 ∧ x2.1.2.2.1 ≤ (↑(x2.2.1.2) : Int) then
 (if Eng.roomOk (List.length x2.2.2.1 + List.length [Eng.V.c (Value.string (ByteArray.extract x2.1.1 (Int.toNat x2.1.2.2.1) (Int.toNat (↑(x2.2.1.2) : Int))))]) (16 : Nat) then
 k1 ((x2.1.1, (), (-1), (), ()), (x2.2.1.1, x2.2.1.2 + Prod.snd (Go.Utf8.decode x2.2.1.1 x2.2.1.2)), x2.2.2.1 ++ [Eng.V.c (Value.string (ByteArray.extract x2.1.1 (Int.toNat x2.1.2.2.1) (Int.toNat (↑(x2.2.1.2) : Int))))], ())
 else
 False)
 else
 False)
 else
 False)
 else
 k1 ((x2.1.1, (), x2.1.2.2.1, (), ()), (x2.2.1.1, x2.2.1.2 + Prod.snd (Go.Utf8.decode x2.2.1.1 x2.2.1.2)), x2.2.2))
 else
 (if ((↑(Prod.fst (Go.Utf8.decode x2.2.1.1 x2.2.1.2)) : Int) == 9) then
 (if decide (x2.1.2.2.1 ≥ 0) then
 (if 0 ≤ (↑(x2.2.1.2) : Int) ∧ (↑(x2.2.1.2) : Int) ≤ (↑(ByteArray.size x2.1.1) : Int) then
 (if 0 ≤ x2.1.2.2.1 ∧ x2.1.2.2.1 ≤ (↑(x2.2.1.2) : Int) then
 (if Eng.roomOk (List.length x2.2.2.1 + List.length [Eng.V.c (Value.string (ByteArray.extract x2.1.1 (Int.toNat x2.1.2.2.1) (Int.toNat (↑(x2.2.1.2) : Int))))]) (16 : Nat) then
 k1 ((x2.1.1, (), (-1), (), ()), (x2.2.1.1, x2.2.1.2 + Prod.snd (Go.Utf8.decode x2.2.1.1 x2.2.1.2)), x2.2.2.1 ++ [Eng.V.c (Value.string (ByteArray.extract x2.1.1 (Int.toNat x2.1.2.2.1) (Int.toNat (↑(x2.2.1.2) : Int))))], ())
 else
 False)
 else
 False)
 else
 False)
 else
 (if (!(↑(Prod.fst (Go.Utf8.decode x2.2.1.1 x2.2.1.2)) : Int) == 9) then
 (if decide (x2.1.2.2.1 < 0) then
 k1 ((x2.1.1, (), (↑(x2.2.1.2) : Int), (), ()), (x2.2.1.1, x2.2.1.2 + Prod.snd (Go.Utf8.decode x2.2.1.1 x2.2.1.2)), x2.2.2)
 else
 k1 ((x2.1.1, (), x2.1.2.2.1, (), ()), (x2.2.1.1, x2.2.1.2 + Prod.snd (Go.Utf8.decode x2.2.1.1 x2.2.1.2)), x2.2.2))
 else
 k1 ((x2.1.1, (), x2.1.2.2.1, (), ()), (x2.2.1.1, x2.2.1.2 + Prod.snd (Go.Utf8.decode x2.2.1.1 x2.2.1.2)), x2.2.2)))
 else
 (if (!(↑(Prod.fst (Go.Utf8.decode x2.2.1.1 x2.2.1.2)) : Int) == 9) then
 (if decide (x2.1.2.2.1 < 0) then
 k1 ((x2.1.1, (), (↑(x2.2.1.2) : Int), (), ()), (x2.2.1.1, x2.2.1.2 + Prod.snd (Go.Utf8.decode x2.2.1.1 x2.2.1.2)), x2.2.2)
 else
 k1 ((x2.1.1, (), x2.1.2.2.1, (), ()), (x2.2.1.1, x2.2.1.2 + Prod.snd (Go.Utf8.decode x2.2.1.1 x2.2.1.2)), x2.2.2))
 else
 k1 ((x2.1.1, (), x2.1.2.2.1, (), ()), (x2.2.1.1, x2.2.1.2 + Prod.snd (Go.Utf8.decode x2.2.1.1 x2.2.1.2)), x2.2.2))))
 else
 K x2.2.2.1 true false)
def Llines_Words_0p : Lp := ⟨525, [.trim 525, .fat 2 1 736, .trim 525], pT17, pH18, 0⟩
def Ylines_Words (a0 : ByteArray) (K : (List Eng.V) → Bool → Bool → Prop) : Prop :=
 (if (↑(ByteArray.size a0 + (1 : Nat)) : Int) > 9223372036854775807 then
 False
 else
 lp (Llines_Words_0 K) ((a0, (), (-1), (), ()), (a0 ++ ByteArray.mk #[(32 : UInt8)], (0 : Nat)), [], ()))
def Xlines_Words : Tlines_Words := Ylines_Words
def Jlines_Words (X : Tlines_Words) : Inst := mkI 26 pL9 .nil pL6 pH7 X
def Ilines_Words : Inst := Jlines_Words Xlines_Words
theorem Elines_Words : EqF Tryz.prog 42 gives Tryz.f26 [] [Llines_Words_0p] (Jlines_Words (Ylines_Words)) := fun x y K => by kernel_rfl
theorem Ilines_Words_ok : InstOk Tryz.prog G.1 Ilines_Words := iok (gives := gives) [Llines_Words_0p] okNil 42 follows Tryz.func26 (by kernel_rfl) (fun x => by kernel_rfl) (Elines_Words)

/- epact/lines.Fold -/
abbrev Tlines_Fold : Type := ByteArray → (ByteArray → Prop) → Prop
def Llines_Fold_0 (K : ByteArray → Prop) : (Q19 → Prop) → Q19 → Prop := fun k1 x2 =>
 (if decide (x2.1.2.2.2.2.1 < x2.1.2.2.2.1) then
 (if 0 ≤ x2.1.2.2.2.2.1 ∧ x2.1.2.2.2.2.1 < (↑(List.length x2.2.1) : Int) then
 (Eng.asInt IntKind.u8 (Eng.getC x2.2.1 (Int.toNat x2.1.2.2.2.2.1) (0 : Nat)) False fun n3 =>
 (if decide (n3 ≥ 65) then
 (if decide (n3 ≤ 90) then
 (if 0 ≤ x2.1.2.2.2.2.1 ∧ x2.1.2.2.2.2.1 < (↑(List.length x2.2.1) : Int) then
 (Eng.asInt IntKind.u8 (Eng.getC x2.2.1 (Int.toNat x2.1.2.2.2.2.1) (0 : Nat)) False fun n4 =>
 (if 0 ≤ x2.1.2.2.2.2.1 ∧ x2.1.2.2.2.2.1 < (↑(List.length x2.2.1) : Int) then
 (if Int.toNat x2.1.2.2.2.2.1 < List.length x2.2.1 then
 (lt (List.set x2.2.1 (Int.toNat x2.1.2.2.2.2.1) (Eng.setE (List.getD x2.2.1 (Int.toNat x2.1.2.2.2.2.1) Eng.V.bad) (0 : Nat) [Eng.V.c (Value.int IntKind.u8 (wu8 (n4 + 32)))])) fun v5 =>
 k1 ((x2.1.1, (), (), x2.1.2.2.2.1, w64 (x2.1.2.2.2.2.1 + 1), ()), v5, ()))
 else
 False)
 else
 False))
 else
 False)
 else
 k1 ((x2.1.1, (), (), x2.1.2.2.2.1, w64 (x2.1.2.2.2.2.1 + 1), ()), x2.2))
 else
 k1 ((x2.1.1, (), (), x2.1.2.2.2.1, w64 (x2.1.2.2.2.2.1 + 1), ()), x2.2)))
 else
 False)
 else
 (if Eng.allU8 x2.2.1 then
 K (Eng.packB x2.2.1)
 else
 False))
def Llines_Fold_0p : Lp := ⟨1804, [.trim 1804], pT20, pH21, 0⟩
def Ylines_Fold (a0 : ByteArray) (K : ByteArray → Prop) : Prop :=
 lp (Llines_Fold_0 K) ((ByteArray.mk #[], (), (), (↑(List.length (Eng.bytesV a0)) : Int), 0, ()), Eng.bytesV a0, ())
def Xlines_Fold : Tlines_Fold := Ylines_Fold
def Jlines_Fold (X : Tlines_Fold) : Inst := mkI 39 pL9 .nil pL9 .nil X
def Ilines_Fold : Inst := Jlines_Fold Xlines_Fold
theorem Elines_Fold : EqF Tryz.prog 30 gives Tryz.f39 [] [Llines_Fold_0p] (Jlines_Fold (Ylines_Fold)) := fun x y K => by kernel_rfl
theorem Ilines_Fold_ok : InstOk Tryz.prog G.1 Ilines_Fold := iok (gives := gives) [Llines_Fold_0p] okNil 30 follows Tryz.func39 (by kernel_rfl) (fun x => by kernel_rfl) (Elines_Fold)

/- epact/num.size -/
abbrev Tnum_size : Type := Int → (Int → Prop) → Prop
def Ynum_size (a0 : Int) (K : Int → Prop) : Prop :=
 (if decide (a0 < 0) then
 K (wu64 (0 - wu64 a0))
 else
 K (wu64 a0))
def Xnum_size : Tnum_size := Ynum_size
def Jnum_size (X : Tnum_size) : Inst := mkI 132 pL1 .nil pL22 .nil X
def Inum_size : Inst := Jnum_size Xnum_size
theorem Enum_size : EqF Tryz.prog 10 gives Tryz.f132 [] [] (Jnum_size (Ynum_size)) := fun x y K => by kernel_rfl
theorem Inum_size_ok : InstOk Tryz.prog G.1 Inum_size := iok (gives := gives) [] okNil 10 follows Tryz.func132 (by kernel_rfl) (fun x => by kernel_rfl) (Enum_size)

/- math/bits.Mul64 -/
abbrev Tmath_bits_Mul64 : Type := Int → Int → (Int → Int → Prop) → Prop
def Ymath_bits_Mul64 (a0 : Int) (a1 : Int) (K : Int → Int → Prop) : Prop :=
 (lt (wu64 (wu64 (↑(BitVec.toNat (BitVec.ofInt (64 : Nat) a0 &&& BitVec.ofInt (64 : Nat) 4294967295)) : Int) * wu64 (↑(BitVec.toNat (BitVec.ofInt (64 : Nat) a1 &&& BitVec.ofInt (64 : Nat) 4294967295)) : Int))) fun v2 =>
 (lt (wu64 (Int.fdiv a0 4294967296 * wu64 (↑(BitVec.toNat (BitVec.ofInt (64 : Nat) a1 &&& BitVec.ofInt (64 : Nat) 4294967295)) : Int))) fun v3 =>
 (lt (wu64 (↑(BitVec.toNat (BitVec.ofInt (64 : Nat) (wu64 (v3 + Int.fdiv v2 4294967296)) &&& BitVec.ofInt (64 : Nat) 4294967295)) : Int)) fun v4 =>
 (lt (Int.fdiv (wu64 (v3 + Int.fdiv v2 4294967296)) 4294967296) fun v5 =>
 (lt (wu64 (wu64 (↑(BitVec.toNat (BitVec.ofInt (64 : Nat) a0 &&& BitVec.ofInt (64 : Nat) 4294967295)) : Int) * Int.fdiv a1 4294967296)) fun v6 =>
 (lt (wu64 (Int.fdiv a0 4294967296 * Int.fdiv a1 4294967296)) fun v7 =>
 (lt (wu64 (wu64 (v7 + v5) + Int.fdiv (wu64 (v4 + v6)) 4294967296)) fun v8 =>
 K v8 (wu64 (a0 * a1)))))))))
def Xmath_bits_Mul64 : Tmath_bits_Mul64 := Ymath_bits_Mul64
def Jmath_bits_Mul64 (X : Tmath_bits_Mul64) : Inst := mkI 131 pL23 .nil pL23 .nil X
def Imath_bits_Mul64 : Inst := Jmath_bits_Mul64 Xmath_bits_Mul64
theorem Emath_bits_Mul64 : EqF Tryz.prog 51 gives Tryz.f131 [] [] (Jmath_bits_Mul64 (Ymath_bits_Mul64)) := fun x y K => by kernel_rfl
theorem Imath_bits_Mul64_ok : InstOk Tryz.prog G.1 Imath_bits_Mul64 := iok (gives := gives) [] okNil 51 follows Tryz.func131 (by kernel_rfl) (fun x => by kernel_rfl) (Emath_bits_Mul64)

/- epact/num.Mul -/
abbrev Tnum_Mul : Type := Int → Int → (Int → Bool → Prop) → Prop
def Ynum_Mul (xnum_size : Tnum_size) (xmath_bits_Mul64 : Tmath_bits_Mul64) (a0 : Int) (a1 : Int) (K : Int → Bool → Prop) : Prop :=
 xnum_size a0 (fun r2 =>
 xnum_size a1 (fun r3 =>
 xmath_bits_Mul64 r2 r3 (fun r4 r5 =>
 (if (!decide (a0 < 0) == decide (a1 < 0)) then
 (if (r4 != 0) then
 K 0 false
 else
 (if decide (r5 > 9223372036854775808) then
 K 0 false
 else
 K (w64 (a0 * a1)) true))
 else
 (if (r4 != 0) then
 K 0 false
 else
 (if decide (r5 > 9223372036854775807) then
 K 0 false
 else
 K (w64 (a0 * a1)) true))))))
def Xnum_Mul : Tnum_Mul := Ynum_Mul Xnum_size Xmath_bits_Mul64
def Jnum_Mul (X : Tnum_Mul) : Inst := mkI 100 pL24 .nil pL25 .nil X
def Inum_Mul : Inst := Jnum_Mul Xnum_Mul
theorem Enum_Mul (xnum_size : Tnum_size) (xmath_bits_Mul64 : Tmath_bits_Mul64) : EqF Tryz.prog 34 gives Tryz.f100 [Jnum_size xnum_size, Jmath_bits_Mul64 xmath_bits_Mul64] [] (Jnum_Mul (Ynum_Mul xnum_size xmath_bits_Mul64)) := fun x y K => by kernel_rfl
theorem Inum_Mul_ok : InstOk Tryz.prog G.1 Inum_Mul := iok (gives := gives) [] (okCons Inum_size_ok (okCons Imath_bits_Mul64_ok okNil)) 34 follows Tryz.func100 (by kernel_rfl) (fun x => by kernel_rfl) (Enum_Mul Xnum_size Xmath_bits_Mul64)

/- epact/num.Add -/
abbrev Tnum_Add : Type := Int → Int → (Int → Bool → Prop) → Prop
def Ynum_Add (a0 : Int) (a1 : Int) (K : Int → Bool → Prop) : Prop :=
 (lt (!decide (w64 (a0 + a1) > a0) == decide (a1 > 0)) fun v2 =>
 (if v2 then
 (if (a1 != 0) then
 K 0 false
 else
 K (w64 (a0 + a1)) true)
 else
 K (w64 (a0 + a1)) true))
def Xnum_Add : Tnum_Add := Ynum_Add
def Jnum_Add (X : Tnum_Add) : Inst := mkI 101 pL24 .nil pL25 .nil X
def Inum_Add : Inst := Jnum_Add Xnum_Add
theorem Enum_Add : EqF Tryz.prog 21 gives Tryz.f101 [] [] (Jnum_Add (Ynum_Add)) := fun x y K => by kernel_rfl
theorem Inum_Add_ok : InstOk Tryz.prog G.1 Inum_Add := iok (gives := gives) [] okNil 21 follows Tryz.func101 (by kernel_rfl) (fun x => by kernel_rfl) (Enum_Add)

/- epact/lines.Number -/
abbrev Tlines_Number : Type := ByteArray → (Int → Bool → Prop) → Prop
def Llines_Number_0 (xnum_Mul : Tnum_Mul) (xnum_Add : Tnum_Add) (K : Int → Bool → Prop) : (Q26 → Prop) → Q26 → Prop := fun k1 x2 =>
 (if decide (x2.1.2.2.2.2.2.1 < x2.1.2.2.2.2.1) then
 (if 0 ≤ x2.1.2.2.2.2.2.1 ∧ x2.1.2.2.2.2.2.1 < (↑(List.length x2.2.1) : Int) then
 (Eng.asInt IntKind.u8 (Eng.getC x2.2.1 (Int.toNat x2.1.2.2.2.2.2.1) (0 : Nat)) False fun n3 =>
 xnum_Mul x2.1.2.1 10 (fun r4 r5 =>
 xnum_Add r4 (w64 (w64 n3 - 48)) (fun r6 r7 =>
 (if decide (n3 < 48) then
 K 0 false
 else
 (if decide (n3 > 57) then
 K 0 false
 else
 (if (!r5) then
 K 0 false
 else
 (if (!r7) then
 K 0 false
 else
 k1 ((x2.1.1, r6, x2.1.2.2.1, (), x2.1.2.2.2.2.1, w64 (x2.1.2.2.2.2.2.1 + 1), ()), x2.2))))))))
 else
 False)
 else
 K x2.1.2.1 (decide ((↑(ByteArray.size x2.1.1) : Int) > 0)))
def Llines_Number_0p : Lp := ⟨14349, [.trim 14349], pT27, pH28, 0⟩
def Ylines_Number (xnum_Mul : Tnum_Mul) (xnum_Add : Tnum_Add) (a0 : ByteArray) (K : Int → Bool → Prop) : Prop :=
 lp (Llines_Number_0 xnum_Mul xnum_Add K) ((a0, 0, false, (), (↑(List.length (Eng.bytesV a0)) : Int), 0, ()), Eng.bytesV a0, ())
def Xlines_Number : Tlines_Number := Ylines_Number Xnum_Mul Xnum_Add
def Jlines_Number (X : Tlines_Number) : Inst := mkI 46 pL9 .nil pL25 .nil X
def Ilines_Number : Inst := Jlines_Number Xlines_Number
theorem Elines_Number (xnum_Mul : Tnum_Mul) (xnum_Add : Tnum_Add) : EqF Tryz.prog 50 gives Tryz.f46 [Jnum_Mul xnum_Mul, Jnum_Add xnum_Add] [Llines_Number_0p] (Jlines_Number (Ylines_Number xnum_Mul xnum_Add)) := fun x y K => by kernel_rfl
theorem Ilines_Number_ok : InstOk Tryz.prog G.1 Ilines_Number := iok (gives := gives) [Llines_Number_0p] (okCons Inum_Mul_ok (okCons Inum_Add_ok okNil)) 50 follows Tryz.func46 (by kernel_rfl) (fun x => by kernel_rfl) (Elines_Number Xnum_Mul Xnum_Add)

/- epact/zic.names -/
abbrev Tzic_names : Type := (Q29 → Prop) → Prop
def Yzic_names (K : Q29 → Prop) : Prop :=
 K (ByteArray.mk #[(106 : UInt8), (97 : UInt8), (110 : UInt8), (117 : UInt8), (97 : UInt8), (114 : UInt8), (121 : UInt8)], ByteArray.mk #[(102 : UInt8), (101 : UInt8), (98 : UInt8), (114 : UInt8), (117 : UInt8), (97 : UInt8), (114 : UInt8), (121 : UInt8)], ByteArray.mk #[(109 : UInt8), (97 : UInt8), (114 : UInt8), (99 : UInt8), (104 : UInt8)], ByteArray.mk #[(97 : UInt8), (112 : UInt8), (114 : UInt8), (105 : UInt8), (108 : UInt8)], ByteArray.mk #[(109 : UInt8), (97 : UInt8), (121 : UInt8)], ByteArray.mk #[(106 : UInt8), (117 : UInt8), (110 : UInt8), (101 : UInt8)], ByteArray.mk #[(106 : UInt8), (117 : UInt8), (108 : UInt8), (121 : UInt8)], ByteArray.mk #[(97 : UInt8), (117 : UInt8), (103 : UInt8), (117 : UInt8), (115 : UInt8), (116 : UInt8)], ByteArray.mk #[(115 : UInt8), (101 : UInt8), (112 : UInt8), (116 : UInt8), (101 : UInt8), (109 : UInt8), (98 : UInt8), (101 : UInt8), (114 : UInt8)], ByteArray.mk #[(111 : UInt8), (99 : UInt8), (116 : UInt8), (111 : UInt8), (98 : UInt8), (101 : UInt8), (114 : UInt8)], ByteArray.mk #[(110 : UInt8), (111 : UInt8), (118 : UInt8), (101 : UInt8), (109 : UInt8), (98 : UInt8), (101 : UInt8), (114 : UInt8)], ByteArray.mk #[(100 : UInt8), (101 : UInt8), (99 : UInt8), (101 : UInt8), (109 : UInt8), (98 : UInt8), (101 : UInt8), (114 : UInt8)], ())
def Xzic_names : Tzic_names := Yzic_names
def Jzic_names (X : Tzic_names) : Inst := mkI 40 .nil .nil pL30 .nil X
def Izic_names : Inst := Jzic_names Xzic_names
theorem Ezic_names : EqF Tryz.prog 2 gives Tryz.f40 [] [] (Jzic_names (Yzic_names)) := fun x y K => by kernel_rfl
theorem Izic_names_ok : InstOk Tryz.prog G.1 Izic_names := iok (gives := gives) [] okNil 2 follows Tryz.func40 (by kernel_rfl) (fun x => by kernel_rfl) (Ezic_names)

/- internal/stringslite.HasPrefix -/
abbrev Tinternal_stringslite_HasPrefix : Type := ByteArray → ByteArray → (Bool → Prop) → Prop
def Yinternal_stringslite_HasPrefix (a0 : ByteArray) (a1 : ByteArray) (K : Bool → Prop) : Prop :=
 (if decide ((↑(ByteArray.size a0) : Int) ≥ (↑(ByteArray.size a1) : Int)) then
 (if 0 ≤ (↑(ByteArray.size a1) : Int) ∧ (↑(ByteArray.size a1) : Int) ≤ (↑(ByteArray.size a0) : Int) then
 K (ByteArray.toList (ByteArray.extract a0 (0 : Nat) (Int.toNat (↑(ByteArray.size a1) : Int))) == ByteArray.toList a1)
 else
 False)
 else
 K false)
def Xinternal_stringslite_HasPrefix : Tinternal_stringslite_HasPrefix := Yinternal_stringslite_HasPrefix
def Jinternal_stringslite_HasPrefix (X : Tinternal_stringslite_HasPrefix) : Inst := mkI 98 pL0 .nil pL8 .nil X
def Iinternal_stringslite_HasPrefix : Inst := Jinternal_stringslite_HasPrefix Xinternal_stringslite_HasPrefix
theorem Einternal_stringslite_HasPrefix : EqF Tryz.prog 18 gives Tryz.f98 [] [] (Jinternal_stringslite_HasPrefix (Yinternal_stringslite_HasPrefix)) := fun x y K => by kernel_rfl
theorem Iinternal_stringslite_HasPrefix_ok : InstOk Tryz.prog G.1 Iinternal_stringslite_HasPrefix := iok (gives := gives) [] okNil 18 follows Tryz.func98 (by kernel_rfl) (fun x => by kernel_rfl) (Einternal_stringslite_HasPrefix)

/- strings.HasPrefix -/
abbrev Tstrings_HasPrefix : Type := ByteArray → ByteArray → (Bool → Prop) → Prop
def Ystrings_HasPrefix (xinternal_stringslite_HasPrefix : Tinternal_stringslite_HasPrefix) (a0 : ByteArray) (a1 : ByteArray) (K : Bool → Prop) : Prop :=
 xinternal_stringslite_HasPrefix a0 a1 (fun r2 =>
 K r2)
def Xstrings_HasPrefix : Tstrings_HasPrefix := Ystrings_HasPrefix Xinternal_stringslite_HasPrefix
def Jstrings_HasPrefix (X : Tstrings_HasPrefix) : Inst := mkI 41 pL0 .nil pL8 .nil X
def Istrings_HasPrefix : Inst := Jstrings_HasPrefix Xstrings_HasPrefix
theorem Estrings_HasPrefix (xinternal_stringslite_HasPrefix : Tinternal_stringslite_HasPrefix) : EqF Tryz.prog 8 gives Tryz.f41 [Jinternal_stringslite_HasPrefix xinternal_stringslite_HasPrefix] [] (Jstrings_HasPrefix (Ystrings_HasPrefix xinternal_stringslite_HasPrefix)) := fun x y K => by kernel_rfl
theorem Istrings_HasPrefix_ok : InstOk Tryz.prog G.1 Istrings_HasPrefix := iok (gives := gives) [] (okCons Iinternal_stringslite_HasPrefix_ok okNil) 8 follows Tryz.func41 (by kernel_rfl) (fun x => by kernel_rfl) (Estrings_HasPrefix Xinternal_stringslite_HasPrefix)

/- epact/zic.Month -/
abbrev Tzic_Month : Type := ByteArray → (Int → Bool → Prop) → Prop
def Lzic_Month_0 (xstrings_HasPrefix : Tstrings_HasPrefix) (K : Int → Bool → Prop) : (Q31 → Prop) → Q31 → Prop := fun k3 x4 =>
 (if decide (x4.1.2.2.2.2.1 < 12) then
 (if 0 ≤ x4.1.2.2.2.2.1 ∧ x4.1.2.2.2.2.1 < 12 then
 (Eng.asStr ([Eng.V.c (Value.string x4.1.2.2.2.1.1), Eng.V.c (Value.string x4.1.2.2.2.1.2.1), Eng.V.c (Value.string x4.1.2.2.2.1.2.2.1), Eng.V.c (Value.string x4.1.2.2.2.1.2.2.2.1), Eng.V.c (Value.string x4.1.2.2.2.1.2.2.2.2.1), Eng.V.c (Value.string x4.1.2.2.2.1.2.2.2.2.2.1), Eng.V.c (Value.string x4.1.2.2.2.1.2.2.2.2.2.2.1), Eng.V.c (Value.string x4.1.2.2.2.1.2.2.2.2.2.2.2.1), Eng.V.c (Value.string x4.1.2.2.2.1.2.2.2.2.2.2.2.2.1), Eng.V.c (Value.string x4.1.2.2.2.1.2.2.2.2.2.2.2.2.2.1), Eng.V.c (Value.string x4.1.2.2.2.1.2.2.2.2.2.2.2.2.2.2.1), Eng.V.c (Value.string x4.1.2.2.2.1.2.2.2.2.2.2.2.2.2.2.2.1)][Int.toNat x4.1.2.2.2.2.1 * (1 : Nat)]?) False fun t5 =>
 (if decide ((↑(ByteArray.size x4.1.2.2.1) : Int) > 2) then
 xstrings_HasPrefix t5 x4.1.2.2.1 (fun r6 =>
 (if r6 then
 K (w64 (x4.1.2.2.2.2.1 + 1)) true
 else
 k3 ((x4.1.1, x4.1.2.1, x4.1.2.2.1, x4.1.2.2.2.1, w64 (x4.1.2.2.2.2.1 + 1), ()), ())))
 else
 k3 ((x4.1.1, x4.1.2.1, x4.1.2.2.1, x4.1.2.2.2.1, w64 (x4.1.2.2.2.2.1 + 1), ()), ())))
 else
 False)
 else
 K 0 false)
def Lzic_Month_0p : Lp := ⟨1564, [.trim 1564], pT32, .nil, 0⟩
def Yzic_Month (xlines_Fold : Tlines_Fold) (xzic_names : Tzic_names) (xstrings_HasPrefix : Tstrings_HasPrefix) (a0 : ByteArray) (K : Int → Bool → Prop) : Prop :=
 xlines_Fold a0 (fun r1 =>
 xzic_names (fun r2 =>
 lp (Lzic_Month_0 xstrings_HasPrefix K) ((0, false, r1, r2, 0, ()), ())))
def Xzic_Month : Tzic_Month := Yzic_Month Xlines_Fold Xzic_names Xstrings_HasPrefix
def Jzic_Month (X : Tzic_Month) : Inst := mkI 12 pL9 .nil pL25 .nil X
def Izic_Month : Inst := Jzic_Month Xzic_Month
theorem Ezic_Month (xlines_Fold : Tlines_Fold) (xzic_names : Tzic_names) (xstrings_HasPrefix : Tstrings_HasPrefix) : EqF Tryz.prog 25 gives Tryz.f12 [Jlines_Fold xlines_Fold, Jzic_names xzic_names, Jstrings_HasPrefix xstrings_HasPrefix] [Lzic_Month_0p] (Jzic_Month (Yzic_Month xlines_Fold xzic_names xstrings_HasPrefix)) := fun x y K => by kernel_rfl
theorem Izic_Month_ok : InstOk Tryz.prog G.1 Izic_Month := iok (gives := gives) [Lzic_Month_0p] (okCons Ilines_Fold_ok (okCons Izic_names_ok (okCons Istrings_HasPrefix_ok okNil))) 25 follows Tryz.func12 (by kernel_rfl) (fun x => by kernel_rfl) (Ezic_Month Xlines_Fold Xzic_names Xstrings_HasPrefix)

/- strings.SplitN -/
abbrev Tstrings_SplitN : Type := ByteArray → ByteArray → Int → ((List Eng.V) → Bool → Bool → Prop) → Prop
def Ystrings_SplitN (xstrings_genSplit : Tstrings_genSplit) (a0 : ByteArray) (a1 : ByteArray) (a2 : Int) (K : (List Eng.V) → Bool → Bool → Prop) : Prop :=
 xstrings_genSplit a0 a1 0 a2 (fun r3 r4 r5 =>
 K r3 r4 r5)
def Xstrings_SplitN : Tstrings_SplitN := Ystrings_SplitN Xstrings_genSplit
def Jstrings_SplitN (X : Tstrings_SplitN) : Inst := mkI 45 pL33 .nil pL6 pH7 X
def Istrings_SplitN : Inst := Jstrings_SplitN Xstrings_SplitN
theorem Estrings_SplitN (xstrings_genSplit : Tstrings_genSplit) : EqF Tryz.prog 11 gives Tryz.f45 [Jstrings_genSplit xstrings_genSplit] [] (Jstrings_SplitN (Ystrings_SplitN xstrings_genSplit)) := fun x y K => by kernel_rfl
theorem Istrings_SplitN_ok : InstOk Tryz.prog G.1 Istrings_SplitN := iok (gives := gives) [] (okCons Istrings_genSplit_ok okNil) 11 follows Tryz.func45 (by kernel_rfl) (fun x => by kernel_rfl) (Estrings_SplitN Xstrings_genSplit)

/- epact/stamp.Second -/
abbrev Tstamp_Second : Type := Int → Int → Int → (Int → Bool → Prop) → Prop
def Ystamp_Second (a0 : Int) (a1 : Int) (a2 : Int) (K : Int → Bool → Prop) : Prop :=
 (if (a0 == 23) then
 (if (a1 == 59) then
 (if (a2 == 60) then
 K 86400 true
 else
 (lt (if a2 < if a1 < a0 then a1 else a0 then a2 else if a1 < a0 then a1 else a0) fun v3 =>
 (if decide (v3 < 0) then
 K 0 false
 else
 (if decide (a0 > 23) then
 K 0 false
 else
 (if decide (a1 > 59) then
 K 0 false
 else
 (if decide (a2 > 59) then
 K 0 false
 else
 (lt (w64 (w64 (a0 * 60) + a1)) fun v4 =>
 (lt (w64 (w64 (v4 * 60) + a2)) fun v5 =>
 K v5 true))))))))
 else
 (lt (if a2 < if a1 < a0 then a1 else a0 then a2 else if a1 < a0 then a1 else a0) fun v6 =>
 (if decide (v6 < 0) then
 K 0 false
 else
 (if decide (a0 > 23) then
 K 0 false
 else
 (if decide (a1 > 59) then
 K 0 false
 else
 (if decide (a2 > 59) then
 K 0 false
 else
 (lt (w64 (w64 (a0 * 60) + a1)) fun v7 =>
 (lt (w64 (w64 (v7 * 60) + a2)) fun v8 =>
 K v8 true))))))))
 else
 (lt (if a2 < if a1 < a0 then a1 else a0 then a2 else if a1 < a0 then a1 else a0) fun v9 =>
 (if decide (v9 < 0) then
 K 0 false
 else
 (if decide (a0 > 23) then
 K 0 false
 else
 (if decide (a1 > 59) then
 K 0 false
 else
 (if decide (a2 > 59) then
 K 0 false
 else
 (lt (w64 (w64 (a0 * 60) + a1)) fun v10 =>
 (lt (w64 (w64 (v10 * 60) + a2)) fun v11 =>
 K v11 true))))))))
def Xstamp_Second : Tstamp_Second := Ystamp_Second
def Jstamp_Second (X : Tstamp_Second) : Inst := mkI 47 pL34 .nil pL25 .nil X
def Istamp_Second : Inst := Jstamp_Second Xstamp_Second
theorem Estamp_Second : EqF Tryz.prog 42 gives Tryz.f47 [] [] (Jstamp_Second (Ystamp_Second)) := fun x y K => by kernel_rfl
theorem Istamp_Second_ok : InstOk Tryz.prog G.1 Istamp_Second := iok (gives := gives) [] okNil 42 follows Tryz.func47 (by kernel_rfl) (fun x => by kernel_rfl) (Estamp_Second)

/- epact/zic.Clock -/
abbrev Tzic_Clock : Type := ByteArray → (Int → Bool → Prop) → Prop
def Lzic_Clock_0 (xlines_Number : Tlines_Number) (xstamp_Second : Tstamp_Second) (K : Int → Bool → Prop) : (Q35 → Prop) → Q35 → Prop := fun k4 x5 =>
 (if decide (x5.1.2.2.2.2.2.1 < x5.1.2.2.2.2.1) then
 (if 0 ≤ x5.1.2.2.2.2.2.1 ∧ x5.1.2.2.2.2.2.1 < (↑(List.length x5.2.2.1.1) : Int) then
 (Eng.asStr (Eng.getC x5.2.2.1.1 (Int.toNat x5.1.2.2.2.2.2.1) (0 : Nat)) False fun t6 =>
 xlines_Number t6 (fun r7 r8 =>
 (if (!r8) then
 K 0 false
 else
 (if decide ((↑(ByteArray.size t6) : Int) > 2) then
 K 0 false
 else
 (if 0 ≤ x5.1.2.2.2.2.2.1 ∧ x5.1.2.2.2.2.2.1 < 3 then
 (if (0 : Nat) < List.length x5.2.1 then
 (if (0 : Nat) + Int.toNat x5.1.2.2.2.2.2.1 * (1 : Nat) + List.length [Eng.V.c (Value.int IntKind.i64 r7)] ≤ (3 : Nat) then
 (lt (List.set x5.2.1 (0 : Nat) (Eng.setE (List.getD x5.2.1 (0 : Nat) Eng.V.bad) ((0 : Nat) + Int.toNat x5.1.2.2.2.2.2.1 * (1 : Nat)) [Eng.V.c (Value.int IntKind.i64 r7)])) fun v9 =>
 k4 ((x5.1.1, x5.1.2.1, (), (), x5.1.2.2.2.2.1, w64 (x5.1.2.2.2.2.2.1 + 1), ()), v9, x5.2.2))
 else
 False)
 else
 False)
 else
 False)))))
 else
 False)
 else
 (Eng.asInt IntKind.i64 (Eng.getC x5.2.1 (0 : Nat) (0 : Nat)) False fun n10 =>
 (Eng.asInt IntKind.i64 (Eng.getC x5.2.1 (0 : Nat) (1 : Nat)) False fun n11 =>
 (Eng.asInt IntKind.i64 (Eng.getC x5.2.1 (0 : Nat) (2 : Nat)) False fun n12 =>
 xstamp_Second n10 n11 n12 (fun r13 r14 =>
 K r13 r14)))))
def Lzic_Clock_0p : Lp := ⟨229404, [.trim 229404], pT36, pH37, 0⟩
def Yzic_Clock (xstrings_SplitN : Tstrings_SplitN) (xlines_Number : Tlines_Number) (xstamp_Second : Tstamp_Second) (a0 : ByteArray) (K : Int → Bool → Prop) : Prop :=
 xstrings_SplitN a0 (ByteArray.mk #[(58 : UInt8)]) 3 (fun r1 r2 r3 =>
 (if decide ((↑(List.length r1) : Int) < 3) then
 K 0 false
 else
 lp (Lzic_Clock_0 xlines_Number xstamp_Second K) ((0, false, (), (), (↑(List.length r1) : Int), 0, ()), [Eng.V.agg [Eng.V.c (Value.int IntKind.i64 0), Eng.V.c (Value.int IntKind.i64 0), Eng.V.c (Value.int IntKind.i64 0)]], (r1, r2, r3), ())))
def Xzic_Clock : Tzic_Clock := Yzic_Clock Xstrings_SplitN Xlines_Number Xstamp_Second
def Jzic_Clock (X : Tzic_Clock) : Inst := mkI 14 pL9 .nil pL25 .nil X
def Izic_Clock : Inst := Jzic_Clock Xzic_Clock
theorem Ezic_Clock (xstrings_SplitN : Tstrings_SplitN) (xlines_Number : Tlines_Number) (xstamp_Second : Tstamp_Second) : EqF Tryz.prog 47 gives Tryz.f14 [Jstrings_SplitN xstrings_SplitN, Jlines_Number xlines_Number, Jstamp_Second xstamp_Second] [Lzic_Clock_0p] (Jzic_Clock (Yzic_Clock xstrings_SplitN xlines_Number xstamp_Second)) := fun x y K => by kernel_rfl
theorem Izic_Clock_ok : InstOk Tryz.prog G.1 Izic_Clock := iok (gives := gives) [Lzic_Clock_0p] (okCons Istrings_SplitN_ok (okCons Ilines_Number_ok (okCons Istamp_Second_ok okNil))) 47 follows Tryz.func14 (by kernel_rfl) (fun x => by kernel_rfl) (Ezic_Clock Xstrings_SplitN Xlines_Number Xstamp_Second)

/- epact/zic.date -/
abbrev Tzic_date : Type := Int → (List Eng.V) → (Q38 → Bool → Prop) → Prop
def Yzic_date (xlines_Number : Tlines_Number) (xzic_Month : Tzic_Month) (xzic_Clock : Tzic_Clock) (a0 : Int) (a1 : (List Eng.V)) (K : Q38 → Bool → Prop) : Prop :=
 (if (0 :Int) ≤ 1 ∧ 1 < (↑(List.length a1) : Int) then
 (Eng.asStr (Eng.getC a1 (1 : Nat) (0 : Nat)) False fun t2 =>
 xlines_Number t2 (fun r3 r4 =>
 (if (0 :Int) ≤ 2 ∧ 2 < (↑(List.length a1) : Int) then
 (Eng.asStr (Eng.getC a1 (2 : Nat) (0 : Nat)) False fun t5 =>
 xzic_Month t5 (fun r6 r7 =>
 (if (0 :Int) ≤ 3 ∧ 3 < (↑(List.length a1) : Int) then
 (Eng.asStr (Eng.getC a1 (3 : Nat) (0 : Nat)) False fun t8 =>
 xlines_Number t8 (fun r9 r10 =>
 (if (0 :Int) ≤ 4 ∧ 4 < (↑(List.length a1) : Int) then
 (Eng.asStr (Eng.getC a1 (4 : Nat) (0 : Nat)) False fun t11 =>
 xzic_Clock t11 (fun r12 r13 =>
 (if r4 then
 (if r7 then
 (if r10 then
 K (a0, r3, r6, r9, r12, ByteArray.mk #[], false, ()) r13
 else
 K (a0, r3, r6, r9, r12, ByteArray.mk #[], false, ()) false)
 else
 K (a0, r3, r6, r9, r12, ByteArray.mk #[], false, ()) false)
 else
 K (a0, r3, r6, r9, r12, ByteArray.mk #[], false, ()) false)))
 else
 False)))
 else
 False)))
 else
 False)))
 else
 False)
def Xzic_date : Tzic_date := Yzic_date Xlines_Number Xzic_Month Xzic_Clock
def Jzic_date (X : Tzic_date) : Inst := mkI 116 pL39 .nil pL40 .nil X
def Izic_date : Inst := Jzic_date Xzic_date
theorem Ezic_date (xlines_Number : Tlines_Number) (xzic_Month : Tzic_Month) (xzic_Clock : Tzic_Clock) : EqF Tryz.prog 58 gives Tryz.f116 [Jlines_Number xlines_Number, Jzic_Month xzic_Month, Jzic_Clock xzic_Clock] [] (Jzic_date (Yzic_date xlines_Number xzic_Month xzic_Clock)) := fun x y K => by kernel_rfl
theorem Izic_date_ok : InstOk Tryz.prog G.1 Izic_date := iok (gives := gives) [] (okCons Ilines_Number_ok (okCons Izic_Month_ok (okCons Izic_Clock_ok okNil))) 58 follows Tryz.func116 (by kernel_rfl) (fun x => by kernel_rfl) (Ezic_date Xlines_Number Xzic_Month Xzic_Clock)

/- epact/zic.roll -/
abbrev Tzic_roll : Type := ByteArray → (Bool → Bool → Prop) → Prop
def Yzic_roll (xlines_Fold : Tlines_Fold) (xstrings_HasPrefix : Tstrings_HasPrefix) (a0 : ByteArray) (K : Bool → Bool → Prop) : Prop :=
 xlines_Fold a0 (fun r1 =>
 xstrings_HasPrefix (ByteArray.mk #[(114 : UInt8), (111 : UInt8), (108 : UInt8), (108 : UInt8), (105 : UInt8), (110 : UInt8), (103 : UInt8)]) r1 (fun r2 =>
 (if r2 then
 K r2 true
 else
 xstrings_HasPrefix (ByteArray.mk #[(115 : UInt8), (116 : UInt8), (97 : UInt8), (116 : UInt8), (105 : UInt8), (111 : UInt8), (110 : UInt8), (97 : UInt8), (114 : UInt8), (121 : UInt8)]) r1 (fun r3 =>
 K r2 r3))))
def Xzic_roll : Tzic_roll := Yzic_roll Xlines_Fold Xstrings_HasPrefix
def Jzic_roll (X : Tzic_roll) : Inst := mkI 117 pL9 .nil pL41 .nil X
def Izic_roll : Inst := Jzic_roll Xzic_roll
theorem Ezic_roll (xlines_Fold : Tlines_Fold) (xstrings_HasPrefix : Tstrings_HasPrefix) : EqF Tryz.prog 15 gives Tryz.f117 [Jlines_Fold xlines_Fold, Jstrings_HasPrefix xstrings_HasPrefix] [] (Jzic_roll (Yzic_roll xlines_Fold xstrings_HasPrefix)) := fun x y K => by kernel_rfl
theorem Izic_roll_ok : InstOk Tryz.prog G.1 Izic_roll := iok (gives := gives) [] (okCons Ilines_Fold_ok (okCons Istrings_HasPrefix_ok okNil)) 15 follows Tryz.func117 (by kernel_rfl) (fun x => by kernel_rfl) (Ezic_roll Xlines_Fold Xstrings_HasPrefix)

/- epact/zic.read -/
abbrev Tzic_read : Type := (List Eng.V) → (Q38 → Bool → Prop) → Prop
def Yzic_read (xlines_Fold : Tlines_Fold) (xzic_date : Tzic_date) (xzic_roll : Tzic_roll) (a0 : (List Eng.V)) (K : Q38 → Bool → Prop) : Prop :=
 (if (0 :Int) ≤ 0 ∧ 0 < (↑(List.length a0) : Int) then
 (Eng.asStr (Eng.getC a0 (0 : Nat) (0 : Nat)) False fun t1 =>
 xlines_Fold t1 (fun r2 =>
 (if (ByteArray.toList r2 == ByteArray.toList (ByteArray.mk #[(108 : UInt8), (101 : UInt8), (97 : UInt8), (112 : UInt8)])) then
 (if ((↑(List.length a0) : Int) == 7) then
 xzic_date 0 a0 (fun r3 r4 =>
 (if (0 :Int) ≤ 6 ∧ 6 < (↑(List.length a0) : Int) then
 (Eng.asStr (Eng.getC a0 (6 : Nat) (0 : Nat)) False fun t5 =>
 xzic_roll t5 (fun r6 r7 =>
 (if (0 :Int) ≤ 5 ∧ 5 < (↑(List.length a0) : Int) then
 (Eng.asStr (Eng.getC a0 (5 : Nat) (0 : Nat)) False fun t8 =>
 (if (ByteArray.toList t8 == ByteArray.toList (ByteArray.mk #[(43 : UInt8)])) then
 (if (ByteArray.toList t8 == ByteArray.toList (ByteArray.mk #[(43 : UInt8)])) then
 (if r4 then
 K (r3.1, r3.2.1, r3.2.2.1, r3.2.2.2.1, r3.2.2.2.2.1, t8, r6, ()) r7
 else
 K (r3.1, r3.2.1, r3.2.2.1, r3.2.2.2.1, r3.2.2.2.2.1, t8, r6, ()) false)
 else
 K (r3.1, r3.2.1, r3.2.2.1, r3.2.2.2.1, r3.2.2.2.2.1, t8, r6, ()) false)
 else
 (if (ByteArray.toList t8 == ByteArray.toList (ByteArray.mk #[(45 : UInt8)])) then
 (if r4 then
 K (r3.1, r3.2.1, r3.2.2.1, r3.2.2.2.1, r3.2.2.2.2.1, t8, r6, ()) r7
 else
 K (r3.1, r3.2.1, r3.2.2.1, r3.2.2.2.1, r3.2.2.2.2.1, t8, r6, ()) false)
 else
 K (r3.1, r3.2.1, r3.2.2.1, r3.2.2.2.1, r3.2.2.2.2.1, t8, r6, ()) false)))
 else
 False)))
 else
 False))
 else
 (lt (ByteArray.toList r2 == ByteArray.toList (ByteArray.mk #[(101 : UInt8), (120 : UInt8), (112 : UInt8), (105 : UInt8), (114 : UInt8), (101 : UInt8), (115 : UInt8)])) fun v9 =>
 (if v9 then
 (if ((↑(List.length a0) : Int) == 5) then
 xzic_date 1 a0 (fun r10 r11 =>
 K r10 r11)
 else
 K (0, 0, 0, 0, 0, ByteArray.mk #[], false, ()) false)
 else
 K (0, 0, 0, 0, 0, ByteArray.mk #[], false, ()) false)))
 else
 (lt (ByteArray.toList r2 == ByteArray.toList (ByteArray.mk #[(101 : UInt8), (120 : UInt8), (112 : UInt8), (105 : UInt8), (114 : UInt8), (101 : UInt8), (115 : UInt8)])) fun v12 =>
 (if v12 then
 (if ((↑(List.length a0) : Int) == 5) then
 xzic_date 1 a0 (fun r13 r14 =>
 K r13 r14)
 else
 K (0, 0, 0, 0, 0, ByteArray.mk #[], false, ()) false)
 else
 K (0, 0, 0, 0, 0, ByteArray.mk #[], false, ()) false)))))
 else
 False)
def Xzic_read : Tzic_read := Yzic_read Xlines_Fold Xzic_date Xzic_roll
def Jzic_read (X : Tzic_read) : Inst := mkI 78 pL42 .nil pL40 .nil X
def Izic_read : Inst := Jzic_read Xzic_read
theorem Ezic_read (xlines_Fold : Tlines_Fold) (xzic_date : Tzic_date) (xzic_roll : Tzic_roll) : EqF Tryz.prog 61 gives Tryz.f78 [Jlines_Fold xlines_Fold, Jzic_date xzic_date, Jzic_roll xzic_roll] [] (Jzic_read (Yzic_read xlines_Fold xzic_date xzic_roll)) := fun x y K => by kernel_rfl
theorem Izic_read_ok : InstOk Tryz.prog G.1 Izic_read := iok (gives := gives) [] (okCons Ilines_Fold_ok (okCons Izic_date_ok (okCons Izic_roll_ok okNil))) 61 follows Tryz.func78 (by kernel_rfl) (fun x => by kernel_rfl) (Ezic_read Xlines_Fold Xzic_date Xzic_roll)

/- epact/day.Leap -/
abbrev Tday_Leap : Type := Int → (Bool → Prop) → Prop
def Yday_Leap (a0 : Int) (K : Bool → Prop) : Prop :=
 (if (Int.tmod a0 (4 :Int) == 0) then
 (if (Int.tmod a0 (100 :Int) != 0) then
 K true
 else
 K (Int.tmod a0 (400 :Int) == 0))
 else
 K false)
def Xday_Leap : Tday_Leap := Yday_Leap
def Jday_Leap (X : Tday_Leap) : Inst := mkI 149 pL1 .nil pL8 .nil X
def Iday_Leap : Inst := Jday_Leap Xday_Leap
theorem Eday_Leap : EqF Tryz.prog 16 gives Tryz.f149 [] [] (Jday_Leap (Yday_Leap)) := fun x y K => by kernel_rfl
theorem Iday_Leap_ok : InstOk Tryz.prog G.1 Iday_Leap := iok (gives := gives) [] okNil 16 follows Tryz.func149 (by kernel_rfl) (fun x => by kernel_rfl) (Eday_Leap)

/- epact/day.Last -/
abbrev Tday_Last : Type := Int → Int → (Int → Bool → Prop) → Prop
def Yday_Last (xday_Leap : Tday_Leap) (a0 : Int) (a1 : Int) (K : Int → Bool → Prop) : Prop :=
 (if decide (a0 < 1) then
 K 0 false
 else
 (if decide (a0 > 9999) then
 K 0 false
 else
 (if decide (a1 < 1) then
 K 0 false
 else
 (if decide (a1 > 12) then
 K 0 false
 else
 (if 0 ≤ w64 (a1 - 1) ∧ w64 (a1 - 1) < 12 then
 (Eng.asInt IntKind.i64 ([Eng.V.c (Value.int IntKind.i64 31), Eng.V.c (Value.int IntKind.i64 28), Eng.V.c (Value.int IntKind.i64 31), Eng.V.c (Value.int IntKind.i64 30), Eng.V.c (Value.int IntKind.i64 31), Eng.V.c (Value.int IntKind.i64 30), Eng.V.c (Value.int IntKind.i64 31), Eng.V.c (Value.int IntKind.i64 31), Eng.V.c (Value.int IntKind.i64 30), Eng.V.c (Value.int IntKind.i64 31), Eng.V.c (Value.int IntKind.i64 30), Eng.V.c (Value.int IntKind.i64 31)][Int.toNat (w64 (a1 - 1)) * (1 : Nat)]?) False fun n2 =>
 (if (a1 == 2) then
 xday_Leap a0 (fun r3 =>
 (if r3 then
 K (w64 (n2 + 1)) true
 else
 K n2 true))
 else
 K n2 true))
 else
 False)))))
def Xday_Last : Tday_Last := Yday_Last Xday_Leap
def Jday_Last (X : Tday_Last) : Inst := mkI 118 pL24 .nil pL25 .nil X
def Iday_Last : Inst := Jday_Last Xday_Last
theorem Eday_Last (xday_Leap : Tday_Leap) : EqF Tryz.prog 34 gives Tryz.f118 [Jday_Leap xday_Leap] [] (Jday_Last (Yday_Last xday_Leap)) := fun x y K => by kernel_rfl
theorem Iday_Last_ok : InstOk Tryz.prog G.1 Iday_Last := iok (gives := gives) [] (okCons Iday_Leap_ok okNil) 34 follows Tryz.func118 (by kernel_rfl) (fun x => by kernel_rfl) (Eday_Last Xday_Leap)

/- epact/num.Div -/
abbrev Tnum_Div : Type := Int → Int → (Int → Int → Bool → Prop) → Prop
def Ynum_Div (a0 : Int) (a1 : Int) (K : Int → Int → Bool → Prop) : Prop :=
 (if decide (a1 < 1) then
 K 0 0 false
 else
 (if a1 = 0 then
 False
 else
 (if a1 = 0 then
 False
 else
 (if decide (Int.tmod a0 a1 < 0) then
 (lt (w64 (w64 (Int.tdiv a0 a1) - 1)) fun v2 =>
 K v2 (w64 (Int.tmod a0 a1 + a1)) true)
 else
 K (w64 (Int.tdiv a0 a1)) (Int.tmod a0 a1) true))))
def Xnum_Div : Tnum_Div := Ynum_Div
def Jnum_Div (X : Tnum_Div) : Inst := mkI 119 pL24 .nil pL43 .nil X
def Inum_Div : Inst := Jnum_Div Xnum_Div
theorem Enum_Div : EqF Tryz.prog 24 gives Tryz.f119 [] [] (Jnum_Div (Ynum_Div)) := fun x y K => by kernel_rfl
theorem Inum_Div_ok : InstOk Tryz.prog G.1 Inum_Div := iok (gives := gives) [] okNil 24 follows Tryz.func119 (by kernel_rfl) (fun x => by kernel_rfl) (Enum_Div)

/- epact/day.Number -/
abbrev Tday_Number : Type := Int → Int → Int → (Int → Bool → Prop) → Prop
def Yday_Number (xday_Last : Tday_Last) (xnum_Div : Tnum_Div) (a0 : Int) (a1 : Int) (a2 : Int) (K : Int → Bool → Prop) : Prop :=
 xday_Last a0 a1 (fun r3 r4 =>
 (if (!r4) then
 K 0 false
 else
 (if decide (a2 < 1) then
 K 0 false
 else
 (if decide (a2 > r3) then
 K 0 false
 else
 (if decide (a1 < 3) then
 xnum_Div (w64 (a0 - 1)) 400 (fun r5 r6 r7 =>
 (lt (w64 (w64 (a1 + 12) - 3)) fun v8 =>
 (lt (w64 (w64 (153 * v8) + 2)) fun v9 =>
 (lt (w64 (w64 (Int.tdiv v9 5) + a2)) fun v10 =>
 (lt (w64 (w64 (146097 * r5) + w64 (365 * r6))) fun v11 =>
 (lt (w64 (v11 + w64 (Int.tdiv r6 4))) fun v12 =>
 (lt (w64 (v12 - w64 (Int.tdiv r6 100))) fun v13 =>
 (lt (w64 (v13 + w64 (v10 - 1))) fun v14 =>
 K (w64 (v14 - 719468)) true))))))))
 else
 xnum_Div a0 400 (fun r15 r16 r17 =>
 (lt (w64 (153 * w64 (a1 - 3))) fun v18 =>
 (lt (w64 (Int.tdiv (w64 (v18 + 2)) 5)) fun v19 =>
 (lt (w64 (w64 (v19 + a2) - 1)) fun v20 =>
 (lt (w64 (w64 (146097 * r15) + w64 (365 * r16))) fun v21 =>
 (lt (w64 (v21 + w64 (Int.tdiv r16 4))) fun v22 =>
 (lt (w64 (v22 - w64 (Int.tdiv r16 100))) fun v23 =>
 (lt (w64 (w64 (v23 + v20) - 719468)) fun v24 =>
 K v24 true)))))))))))))
def Xday_Number : Tday_Number := Yday_Number Xday_Last Xnum_Div
def Jday_Number (X : Tday_Number) : Inst := mkI 79 pL34 .nil pL25 .nil X
def Iday_Number : Inst := Jday_Number Xday_Number
theorem Eday_Number (xday_Last : Tday_Last) (xnum_Div : Tnum_Div) : EqF Tryz.prog 65 gives Tryz.f79 [Jday_Last xday_Last, Jnum_Div xnum_Div] [] (Jday_Number (Yday_Number xday_Last xnum_Div)) := fun x y K => by kernel_rfl
theorem Iday_Number_ok : InstOk Tryz.prog G.1 Iday_Number := iok (gives := gives) [] (okCons Iday_Last_ok (okCons Inum_Div_ok okNil)) 65 follows Tryz.func79 (by kernel_rfl) (fun x => by kernel_rfl) (Eday_Number Xday_Last Xnum_Div)

/- slices.Clone[[]epact/api.Leap,epact/api.Leap] -/
abbrev Tslices_Clone___api_Leap_api_Leap_ : Type := (List Eng.V) → ((List Eng.V) → Bool → Bool → Prop) → Prop
def Yslices_Clone___api_Leap_api_Leap_ (a0 : (List Eng.V)) (K : (List Eng.V) → Bool → Bool → Prop) : Prop :=
 (if List.length a0 = (0 : Nat) then
 (
 K [] true true
 ∧
 (if Eng.roomOk ((0 : Nat) + List.length a0) (24 : Nat) then
 K ([] ++ a0) true false
 else
 False))
 else
 (if Eng.roomOk ((0 : Nat) + List.length a0) (24 : Nat) then
 K ([] ++ a0) true false
 else
 False))
def Xslices_Clone___api_Leap_api_Leap_ : Tslices_Clone___api_Leap_api_Leap_ := Yslices_Clone___api_Leap_api_Leap_
def Jslices_Clone___api_Leap_api_Leap_ (X : Tslices_Clone___api_Leap_api_Leap_) : Inst := mkI 150 pL44 .nil pL6 pH45 X
def Islices_Clone___api_Leap_api_Leap_ : Inst := Jslices_Clone___api_Leap_api_Leap_ Xslices_Clone___api_Leap_api_Leap_
theorem Eslices_Clone___api_Leap_api_Leap_ : EqF Tryz.prog 8 gives Tryz.f150 [] [] (Jslices_Clone___api_Leap_api_Leap_ (Yslices_Clone___api_Leap_api_Leap_)) := fun x y K => by kernel_rfl
theorem Islices_Clone___api_Leap_api_Leap__ok : InstOk Tryz.prog G.1 Islices_Clone___api_Leap_api_Leap_ := iok (gives := gives) [] okNil 8 follows Tryz.func150 (by kernel_rfl) (fun x => by kernel_rfl) (Eslices_Clone___api_Leap_api_Leap_)

/- epact/day.Date -/
abbrev Tday_Date : Type := Int → (Int → Int → Int → Bool → Prop) → Prop
def Yday_Date (xnum_Div : Tnum_Div) (a0 : Int) (K : Int → Int → Int → Bool → Prop) : Prop :=
 (if decide (a0 < (-719162)) then
 K 0 0 0 false
 else
 (if decide (a0 > 2932896) then
 K 0 0 0 false
 else
 xnum_Div (w64 (a0 + 719468)) 146097 (fun r1 r2 r3 =>
 (lt (w64 (r2 - w64 (Int.tdiv r2 1460))) fun v4 =>
 (lt (w64 (v4 + w64 (Int.tdiv r2 36524))) fun v5 =>
 (lt (w64 (v5 - w64 (Int.tdiv r2 146096))) fun v6 =>
 (lt (w64 (365 * w64 (Int.tdiv v6 365))) fun v7 =>
 (lt (w64 (Int.tdiv (w64 (Int.tdiv v6 365)) 4)) fun v8 =>
 (lt (w64 (Int.tdiv (w64 (Int.tdiv v6 365)) 100)) fun v9 =>
 (lt (w64 (w64 (v7 + v8) - v9)) fun v10 =>
 (lt (w64 (5 * w64 (r2 - v10))) fun v11 =>
 (lt (w64 (Int.tdiv (w64 (v11 + 2)) 153)) fun v12 =>
 (lt (w64 (w64 (153 * v12) + 2)) fun v13 =>
 (lt (w64 (w64 (r2 - v10) - w64 (Int.tdiv v13 5))) fun v14 =>
 (if decide (w64 (v12 + 3) > 12) then
 (lt (w64 (w64 (v12 + 3) - 12)) fun v15 =>
 (lt (w64 (w64 (Int.tdiv v6 365) + 1)) fun v16 =>
 (lt (w64 (w64 (400 * r1) + v16)) fun v17 =>
 K v17 v15 (w64 (v14 + 1)) true)))
 else
 (lt (w64 (w64 (400 * r1) + w64 (Int.tdiv v6 365))) fun v18 =>
 K v18 (w64 (v12 + 3)) (w64 (v14 + 1)) true))))))))))))))))
def Xday_Date : Tday_Date := Yday_Date Xnum_Div
def Jday_Date (X : Tday_Date) : Inst := mkI 89 pL1 .nil pL46 .nil X
def Iday_Date : Inst := Jday_Date Xday_Date
theorem Eday_Date (xnum_Div : Tnum_Div) : EqF Tryz.prog 69 gives Tryz.f89 [Jnum_Div xnum_Div] [] (Jday_Date (Yday_Date xnum_Div)) := fun x y K => by kernel_rfl
theorem Iday_Date_ok : InstOk Tryz.prog G.1 Iday_Date := iok (gives := gives) [] (okCons Inum_Div_ok okNil) 69 follows Tryz.func89 (by kernel_rfl) (fun x => by kernel_rfl) (Eday_Date Xnum_Div)

/- epact/day.End -/
abbrev Tday_End : Type := Int → (Bool → Prop) → Prop
def Yday_End (xday_Date : Tday_Date) (xday_Last : Tday_Last) (a0 : Int) (K : Bool → Prop) : Prop :=
 xday_Date a0 (fun r1 r2 r3 r4 =>
 xday_Last r1 r2 (fun r5 r6 =>
 (if r4 then
 K (r3 == r5)
 else
 K false)))
def Xday_End : Tday_End := Yday_End Xday_Date Xday_Last
def Jday_End (X : Tday_End) : Inst := mkI 151 pL1 .nil pL8 .nil X
def Iday_End : Inst := Jday_End Xday_End
theorem Eday_End (xday_Date : Tday_Date) (xday_Last : Tday_Last) : EqF Tryz.prog 28 gives Tryz.f151 [Jday_Date xday_Date, Jday_Last xday_Last] [] (Jday_End (Yday_End xday_Date xday_Last)) := fun x y K => by kernel_rfl
theorem Iday_End_ok : InstOk Tryz.prog G.1 Iday_End := iok (gives := gives) [] (okCons Iday_Date_ok (okCons Iday_Last_ok okNil)) 28 follows Tryz.func151 (by kernel_rfl) (fun x => by kernel_rfl) (Eday_End Xday_Date Xday_Last)

/- epact/leap.wrong -/
abbrev Tleap_wrong : Type := Int → Q47 → Int → (Int → Prop) → Prop
def Yleap_wrong (xday_End : Tday_End) (a0 : Int) (a1 : Q47) (a2 : Int) (K : Int → Prop) : Prop :=
 (if decide (a0 ≥ 200) then
 K 8
 else
 (if decide (a1.1 < 730) then
 (if decide (a1.1 < 730) then
 K 9
 else
 xday_End a1.1 (fun r3 =>
 (if (!r3) then
 K 5
 else
 (if (a1.2.1 != 1) then
 (if (a1.2.1 != (-1)) then
 K 6
 else
 (if decide (a1.1 ≤ a2) then
 K 4
 else
 K 0))
 else
 (if decide (a1.1 ≤ a2) then
 K 4
 else
 K 0)))))
 else
 (if decide (a1.1 ≥ 2932896) then
 K 9
 else
 xday_End a1.1 (fun r4 =>
 (if (!r4) then
 K 5
 else
 (if (a1.2.1 != 1) then
 (if (a1.2.1 != (-1)) then
 K 6
 else
 (if decide (a1.1 ≤ a2) then
 K 4
 else
 K 0))
 else
 (if decide (a1.1 ≤ a2) then
 K 4
 else
 K 0)))))))
def Xleap_wrong : Tleap_wrong := Yleap_wrong Xday_End
def Jleap_wrong (X : Tleap_wrong) : Inst := mkI 121 pL48 .nil pL1 .nil X
def Ileap_wrong : Inst := Jleap_wrong Xleap_wrong
theorem Eleap_wrong (xday_End : Tday_End) : EqF Tryz.prog 36 gives Tryz.f121 [Jday_End xday_End] [] (Jleap_wrong (Yleap_wrong xday_End)) := fun x y K => by kernel_rfl
theorem Ileap_wrong_ok : InstOk Tryz.prog G.1 Ileap_wrong := iok (gives := gives) [] (okCons Iday_End_ok okNil) 36 follows Tryz.func121 (by kernel_rfl) (fun x => by kernel_rfl) (Eleap_wrong Xday_End)

/- epact/leap.Check -/
abbrev Tleap_Check : Type := Q49 → (Int → Int → Prop) → Prop
def Lleap_Check_0 (xleap_wrong : Tleap_wrong) (K : Int → Int → Prop) : (Q50 → Prop) → Q50 → Prop := fun k1 x2 =>
 (if decide (x2.1.2.2.2.2.2.2.1 < x2.1.2.2.2.2.2.1) then
 (if 0 ≤ x2.1.2.2.2.2.2.2.1 ∧ x2.1.2.2.2.2.2.2.1 < (↑(List.length x2.1.2.2.2.2.1) : Int) then
 (Eng.asInt IntKind.i64 (Eng.getC x2.1.2.2.2.2.1 (Int.toNat x2.1.2.2.2.2.2.2.1) (0 : Nat)) False fun n3 =>
 (Eng.asInt IntKind.i64 (Eng.getC x2.1.2.2.2.2.1 (Int.toNat x2.1.2.2.2.2.2.2.1) (1 : Nat)) False fun n4 =>
 (Eng.asBool (Eng.getC x2.1.2.2.2.2.1 (Int.toNat x2.1.2.2.2.2.2.2.1) (2 : Nat)) False fun b5 =>
 xleap_wrong x2.1.2.2.2.2.2.2.1 (n3, n4, b5, ()) x2.1.2.2.2.1 (fun r6 =>
 (if (r6 != 0) then
 K x2.1.2.2.2.2.2.2.1 r6
 else
 k1 (((), x2.1.2.1, x2.1.2.2.1, n3, x2.1.2.2.2.2.1, x2.1.2.2.2.2.2.1, w64 (x2.1.2.2.2.2.2.2.1 + 1), ()), x2.2))))))
 else
 False)
 else
 (if x2.2.1.2.1 then
 (lt (w64 (w64 (x2.1.2.2.2.1 + 1) * 86400)) fun v7 =>
 (if decide (x2.2.1.2.2.1 < if 63072000 > v7 then 63072000 else v7) then
 K (↑(List.length x2.2.1.1) : Int) 9
 else
 (if decide (x2.2.1.2.2.1 > 253402300799) then
 K (↑(List.length x2.2.1.1) : Int) 9
 else
 K (↑(List.length x2.2.1.1) : Int) 0)))
 else
 (if decide (x2.2.1.2.2.1 < 0) then
 K (↑(List.length x2.2.1.1) : Int) 9
 else
 (if decide (x2.2.1.2.2.1 > 0) then
 K (↑(List.length x2.2.1.1) : Int) 9
 else
 K (↑(List.length x2.2.1.1) : Int) 0))))
def Lleap_Check_0p : Lp := ⟨14366, [.trim 14366], pT51, pH52, 0⟩
def Yleap_Check (xleap_wrong : Tleap_wrong) (a0 : Q49) (K : Int → Int → Prop) : Prop :=
 lp (Lleap_Check_0 xleap_wrong K) (((), 0, 0, 729, a0.1, (↑(List.length a0.1) : Int), 0, ()), a0, ())
def Xleap_Check : Tleap_Check := Yleap_Check Xleap_wrong
def Jleap_Check (X : Tleap_Check) : Inst := mkI 81 pL53 .nil pL24 .nil X
def Ileap_Check : Inst := Jleap_Check Xleap_Check
theorem Eleap_Check (xleap_wrong : Tleap_wrong) : EqF Tryz.prog 51 gives Tryz.f81 [Jleap_wrong xleap_wrong] [Lleap_Check_0p] (Jleap_Check (Yleap_Check xleap_wrong)) := fun x y K => by kernel_rfl
theorem Ileap_Check_ok : InstOk Tryz.prog G.1 Ileap_Check := iok (gives := gives) [Lleap_Check_0p] (okCons Ileap_wrong_ok okNil) 51 follows Tryz.func81 (by kernel_rfl) (fun x => by kernel_rfl) (Eleap_Check Xleap_wrong)

/- epact/leap.Add -/
abbrev Tleap_Add : Type := Q49 → Q47 → (Q54 → Int → (List Eng.V) → Bool → Bool → Prop) → Prop
def Yleap_Add (xslices_Clone___api_Leap_api_Leap_ : Tslices_Clone___api_Leap_api_Leap_) (xleap_Check : Tleap_Check) (a0 : Q49) (a1 : Q47) (K : Q54 → Int → (List Eng.V) → Bool → Bool → Prop) : Prop :=
 (dup (
 xslices_Clone___api_Leap_api_Leap_ a0.1 (fun r2 r3 r4 =>
 (if r3 then
 (if Eng.roomOk (List.length r2 + List.length [Eng.V.agg [Eng.V.c (Value.int IntKind.i64 a1.1), Eng.V.c (Value.int IntKind.i64 a1.2.1), Eng.V.c (Value.bool a1.2.2.1)]]) (24 : Nat) then
 (lt (r2 ++ [Eng.V.agg [Eng.V.c (Value.int IntKind.i64 a1.1), Eng.V.c (Value.int IntKind.i64 a1.2.1), Eng.V.c (Value.bool a1.2.2.1)]]) fun v5 =>
 xleap_Check (v5, a0.2) (fun r6 r7 =>
 (if (r7 != 0) then
 (if 0 ≤ (↑(List.length a0.1) : Int) ∧ (↑(List.length a0.1) : Int) = (↑(List.length a0.1) : Int) ∧ (↑(List.length a0.1) : Int) ≤ (↑(List.length v5) : Int) then
 K ((), a0.2) r7 (List.take (Int.toNat (↑(List.length a0.1) : Int)) v5) r3 r4
 else
 False)
 else
 K ((), a0.2) 0 v5 r3 r4)))
 else
 False)
 else
 False))))
def Xleap_Add : Tleap_Add := Yleap_Add Xslices_Clone___api_Leap_api_Leap_ Xleap_Check
def Jleap_Add (X : Tleap_Add) : Inst := mkI 120 pL55 .nil pL56 pH45 X
def Ileap_Add : Inst := Jleap_Add Xleap_Add
theorem Eleap_Add (xslices_Clone___api_Leap_api_Leap_ : Tslices_Clone___api_Leap_api_Leap_) (xleap_Check : Tleap_Check) : EqF Tryz.prog 37 gives Tryz.f120 [Jslices_Clone___api_Leap_api_Leap_ xslices_Clone___api_Leap_api_Leap_, Jleap_Check xleap_Check] [] (Jleap_Add (Yleap_Add xslices_Clone___api_Leap_api_Leap_ xleap_Check)) := fun x y K => by kernel_rfl
theorem Ileap_Add_ok : InstOk Tryz.prog G.1 Ileap_Add := iok (gives := gives) [] (okCons Islices_Clone___api_Leap_api_Leap__ok (okCons Ileap_Check_ok okNil)) 37 follows Tryz.func120 (by kernel_rfl) (fun x => by kernel_rfl) (Eleap_Add Xslices_Clone___api_Leap_api_Leap_ Xleap_Check)

/- (*epact/zic.source).leap -/
abbrev Tzic_source_leap : Type := Q38 → Int → (List Eng.V) → Bool → Int → Int → Int → (Int → Bool → Int → Int → Int → (List Eng.V) → Bool → Bool → Prop) → Prop
def Yzic_source_leap (xleap_Add : Tleap_Add) (a0 : Q38) (a1 : Int) (a2 : (List Eng.V)) (a3 : Bool) (a4 : Int) (a5 : Int) (a6 : Int) (K : Int → Bool → Int → Int → Int → (List Eng.V) → Bool → Bool → Prop) : Prop :=
 (if (ByteArray.toList a0.2.2.2.2.2.1 == ByteArray.toList (ByteArray.mk #[(43 : UInt8)])) then
 (if (a0.2.2.2.2.1 == 86400) then
 xleap_Add (a2, a3, a4, ()) (a1, 1, a0.2.2.2.2.2.2) (fun r7 r8 r9 r10 r11 =>
 K r8 r7.2.1 r7.2.2.1 a5 a6 r9 r10 r11)
 else
 (if (ByteArray.toList a0.2.2.2.2.2.1 == ByteArray.toList (ByteArray.mk #[(45 : UInt8)])) then
 (if (a0.2.2.2.2.1 == 86399) then
 xleap_Add (a2, a3, a4, ()) (a1, (-1), a0.2.2.2.2.2.2) (fun r12 r13 r14 r15 r16 =>
 K r13 r12.2.1 r12.2.2.1 a5 a6 r14 r15 r16)
 else
 K 6 a3 a4 a5 a6 a2 false true)
 else
 K 6 a3 a4 a5 a6 a2 false true))
 else
 (if (ByteArray.toList a0.2.2.2.2.2.1 == ByteArray.toList (ByteArray.mk #[(45 : UInt8)])) then
 (if (a0.2.2.2.2.1 == 86399) then
 xleap_Add (a2, a3, a4, ()) (a1, (-1), a0.2.2.2.2.2.2) (fun r17 r18 r19 r20 r21 =>
 K r18 r17.2.1 r17.2.2.1 a5 a6 r19 r20 r21)
 else
 K 6 a3 a4 a5 a6 a2 false true)
 else
 K 6 a3 a4 a5 a6 a2 false true))
def Xzic_source_leap : Tzic_source_leap := Yzic_source_leap Xleap_Add
def Jzic_source_leap (X : Tzic_source_leap) : Inst := mkI 80 pL57 pH58 pL1 pH59 X
def Izic_source_leap : Inst := Jzic_source_leap Xzic_source_leap
theorem Ezic_source_leap (xleap_Add : Tleap_Add) : EqF Tryz.prog 43 gives Tryz.f80 [Jleap_Add xleap_Add] [] (Jzic_source_leap (Yzic_source_leap xleap_Add)) := fun x y K => by kernel_rfl
theorem Izic_source_leap_ok : InstOk Tryz.prog G.1 Izic_source_leap := iok (gives := gives) [] (okCons Ileap_Add_ok okNil) 43 follows Tryz.func80 (by kernel_rfl) (fun x => by kernel_rfl) (Ezic_source_leap Xleap_Add)

/- (*epact/zic.source).line -/
abbrev Tzic_source_line : Type := Int → (List Eng.V) → (List Eng.V) → Bool → Int → Int → Int → (Int → Bool → Int → Int → Int → (List Eng.V) → Bool → Bool → Prop) → Prop
def Yzic_source_line (xzic_read : Tzic_read) (xday_Number : Tday_Number) (xzic_source_leap : Tzic_source_leap) (a0 : Int) (a1 : (List Eng.V)) (a2 : (List Eng.V)) (a3 : Bool) (a4 : Int) (a5 : Int) (a6 : Int) (K : Int → Bool → Int → Int → Int → (List Eng.V) → Bool → Bool → Prop) : Prop :=
 xzic_read a1 (fun r7 r8 =>
 xday_Number r7.2.1 r7.2.2.1 r7.2.2.2.1 (fun r9 r10 =>
 (if (!r8) then
 (if (!r8) then
 K 2 a3 a4 a5 a6 a2 false true
 else
 (if (!r10) then
 K 9 a3 a4 a5 a6 a2 false true
 else
 (if (r7.1 == 0) then
 xzic_source_leap r7 r9 a2 a3 a4 a5 a6 (fun r11 r12 r13 r14 r15 r16 r17 r18 =>
 K r11 r12 r13 r14 r15 r16 r17 r18)
 else
 (if (r7.2.2.2.2.1 == 86400) then
 K 9 a3 a4 a5 a6 a2 false true
 else
 (lt (w64 (w64 (r9 * 86400) + r7.2.2.2.2.1)) fun v19 =>
 K 0 a3 a4 a0 v19 a2 false true)))))
 else
 (if (r7.1 == 1) then
 (if decide (a5 > 0) then
 K 2 a3 a4 a5 a6 a2 false true
 else
 (if (!r10) then
 K 9 a3 a4 a5 a6 a2 false true
 else
 (if (r7.1 == 0) then
 xzic_source_leap r7 r9 a2 a3 a4 a5 a6 (fun r20 r21 r22 r23 r24 r25 r26 r27 =>
 K r20 r21 r22 r23 r24 r25 r26 r27)
 else
 (if (r7.2.2.2.2.1 == 86400) then
 K 9 a3 a4 a5 a6 a2 false true
 else
 (lt (w64 (w64 (r9 * 86400) + r7.2.2.2.2.1)) fun v28 =>
 K 0 a3 a4 a0 v28 a2 false true)))))
 else
 (if (!r10) then
 K 9 a3 a4 a5 a6 a2 false true
 else
 (if (r7.1 == 0) then
 xzic_source_leap r7 r9 a2 a3 a4 a5 a6 (fun r29 r30 r31 r32 r33 r34 r35 r36 =>
 K r29 r30 r31 r32 r33 r34 r35 r36)
 else
 (if (r7.2.2.2.2.1 == 86400) then
 K 9 a3 a4 a5 a6 a2 false true
 else
 (lt (w64 (w64 (r9 * 86400) + r7.2.2.2.2.1)) fun v37 =>
 K 0 a3 a4 a0 v37 a2 false true))))))))
def Xzic_source_line : Tzic_source_line := Yzic_source_line Xzic_read Xday_Number Xzic_source_leap
def Jzic_source_line (X : Tzic_source_line) : Inst := mkI 27 pL60 pH58 pL1 pH59 X
def Izic_source_line : Inst := Jzic_source_line Xzic_source_line
theorem Ezic_source_line (xzic_read : Tzic_read) (xday_Number : Tday_Number) (xzic_source_leap : Tzic_source_leap) : EqF Tryz.prog 66 gives Tryz.f27 [Jzic_read xzic_read, Jday_Number xday_Number, Jzic_source_leap xzic_source_leap] [] (Jzic_source_line (Yzic_source_line xzic_read xday_Number xzic_source_leap)) := fun x y K => by kernel_rfl
theorem Izic_source_line_ok : InstOk Tryz.prog G.1 Izic_source_line := iok (gives := gives) [] (okCons Izic_read_ok (okCons Iday_Number_ok (okCons Izic_source_leap_ok okNil))) 66 follows Tryz.func27 (by kernel_rfl) (fun x => by kernel_rfl) (Ezic_source_line Xzic_read Xday_Number Xzic_source_leap)

/- epact/leap.Right -/
abbrev Tleap_Right : Type := Q49 → (Bool → Prop) → Prop
def Yleap_Right (xleap_Check : Tleap_Check) (a0 : Q49) (K : Bool → Prop) : Prop :=
 xleap_Check a0 (fun r1 r2 =>
 K (r2 == 0))
def Xleap_Right : Tleap_Right := Yleap_Right Xleap_Check
def Jleap_Right (X : Tleap_Right) : Inst := mkI 28 pL53 .nil pL8 .nil X
def Ileap_Right : Inst := Jleap_Right Xleap_Right
theorem Eleap_Right (xleap_Check : Tleap_Check) : EqF Tryz.prog 12 gives Tryz.f28 [Jleap_Check xleap_Check] [] (Jleap_Right (Yleap_Right xleap_Check)) := fun x y K => by kernel_rfl
theorem Ileap_Right_ok : InstOk Tryz.prog G.1 Ileap_Right := iok (gives := gives) [] (okCons Ileap_Check_ok okNil) 12 follows Tryz.func28 (by kernel_rfl) (fun x => by kernel_rfl) (Eleap_Right Xleap_Check)

/- epact/zic.Parse -/
abbrev Tzic_Parse : Type := ByteArray → (Q54 → Q61 → (List Eng.V) → Bool → Bool → Prop) → Prop
def Lzic_Parse_0 (xstrings_Cut : Tstrings_Cut) (xlines_Words : Tlines_Words) (xzic_source_line : Tzic_source_line) (xleap_Right : Tleap_Right) (K : Q54 → Q61 → (List Eng.V) → Bool → Bool → Prop) : (Q62 → Prop) → Q62 → Prop := fun k4 x5 =>
 (if decide (x5.1.2.2.2.2.2.1 < x5.1.2.2.2.2.1) then
 (if 0 ≤ x5.1.2.2.2.2.2.1 ∧ x5.1.2.2.2.2.2.1 < (↑(List.length x5.2.2.2.2.1.1) : Int) then
 (Eng.asStr (Eng.getC x5.2.2.2.2.1.1 (Int.toNat x5.1.2.2.2.2.2.1) (0 : Nat)) False fun t6 =>
 xstrings_Cut t6 (ByteArray.mk #[(35 : UInt8)]) (fun r7 r8 r9 =>
 xlines_Words r7 (fun r10 r11 r12 =>
 (if ((↑(List.length r10) : Int) == 0) then
 k4 (((), (), (), (), x5.1.2.2.2.2.1, w64 (x5.1.2.2.2.2.2.1 + 1), ()), x5.2)
 else
 xzic_source_line (w64 (x5.1.2.2.2.2.2.1 + 1)) r10 x5.2.2.2.1.1 x5.2.2.2.1.2.1 x5.2.2.2.1.2.2.1 x5.2.2.2.1.2.2.2.1 x5.2.2.2.1.2.2.2.2.1 (fun r13 r14 r15 r16 r17 r18 r19 r20 =>
 (if (r13 != 0) then
 K ((), false, 0, ()) (w64 (x5.1.2.2.2.2.2.1 + 1), r13, ()) [] true true
 else
 k4 (((), (), (), (), x5.1.2.2.2.2.1, w64 (x5.1.2.2.2.2.2.1 + 1), ()), x5.2.1, x5.2.2.1, (r18, r14, r15, r16, r17, ()), x5.2.2.2.2)))))))
 else
 False)
 else
 (if decide (x5.2.2.2.1.2.2.2.1 > 0) then
 xleap_Right (x5.2.2.2.1.1, true, x5.2.2.2.1.2.2.2.2) (fun r21 =>
 (if (!r21) then
 (
 (dup (
 K ((), false, 0, ()) (x5.2.2.2.1.2.2.2.1, 9, ()) [] true true))
 ∧
 K ((), false, 0, ()) (x5.2.2.2.1.2.2.2.1, 9, ()) [] true true)
 else
 K ((), true, x5.2.2.2.1.2.2.2.2) (0, 0, ()) x5.2.2.2.1.1 false true))
 else
 K ((), x5.2.2.2.1.2.1, x5.2.2.2.1.2.2.1, ()) (0, 0, ()) x5.2.2.2.1.1 false true))
def Lzic_Parse_0p : Lp := ⟨7196, [.trim 7196, .thin 560, .trim 7196], pT63, pH64, 0⟩
def Yzic_Parse (xlines_Split : Tlines_Split) (xstrings_Cut : Tstrings_Cut) (xlines_Words : Tlines_Words) (xzic_source_line : Tzic_source_line) (xleap_Right : Tleap_Right) (a0 : ByteArray) (K : Q54 → Q61 → (List Eng.V) → Bool → Bool → Prop) : Prop :=
 xlines_Split a0 (fun r1 r2 r3 =>
 lp (Lzic_Parse_0 xstrings_Cut xlines_Words xzic_source_line xleap_Right K) (((), (), (), (), (↑(List.length r1) : Int), 0, ()), ([], false, 0, ()), (0, 0, ()), ([], false, 0, 0, 0, ()), (r1, r2, r3), ()))
def Xzic_Parse : Tzic_Parse := Yzic_Parse Xlines_Split Xstrings_Cut Xlines_Words Xzic_source_line Xleap_Right
def Jzic_Parse (X : Tzic_Parse) : Inst := mkI 8 pL9 .nil pL65 pH45 X
def Izic_Parse : Inst := Jzic_Parse Xzic_Parse
theorem Ezic_Parse (xlines_Split : Tlines_Split) (xstrings_Cut : Tstrings_Cut) (xlines_Words : Tlines_Words) (xzic_source_line : Tzic_source_line) (xleap_Right : Tleap_Right) : EqF Tryz.prog 60 gives Tryz.f8 [Jlines_Split xlines_Split, Jstrings_Cut xstrings_Cut, Jlines_Words xlines_Words, Jzic_source_line xzic_source_line, Jleap_Right xleap_Right] [Lzic_Parse_0p] (Jzic_Parse (Yzic_Parse xlines_Split xstrings_Cut xlines_Words xzic_source_line xleap_Right)) := fun x y K => by kernel_rfl
theorem Izic_Parse_ok : InstOk Tryz.prog G.1 Izic_Parse := iok (gives := gives) [Lzic_Parse_0p] (okCons Ilines_Split_ok (okCons Istrings_Cut_ok (okCons Ilines_Words_ok (okCons Izic_source_line_ok (okCons Ileap_Right_ok okNil))))) 60 follows Tryz.func8 (by kernel_rfl) (fun x => by kernel_rfl) (Ezic_Parse Xlines_Split Xstrings_Cut Xlines_Words Xzic_source_line Xleap_Right)

/- epact/zic.write -/
abbrev Tzic_write : Type := ByteArray → Int → (List Eng.V) → (ByteArray → Prop) → Prop
def Yzic_write (xday_Date : Tday_Date) (xzic_names : Tzic_names) (xitoa : Titoa) (xjoin : Tjoin) (a0 : ByteArray) (a1 : Int) (a2 : (List Eng.V)) (K : ByteArray → Prop) : Prop :=
 xday_Date a1 (fun r3 r4 r5 r6 =>
 xzic_names (fun r7 =>
 (if 0 ≤ w64 (r4 - 1) ∧ w64 (r4 - 1) < 12 then
 (Eng.asStr ([Eng.V.c (Value.string r7.1), Eng.V.c (Value.string r7.2.1), Eng.V.c (Value.string r7.2.2.1), Eng.V.c (Value.string r7.2.2.2.1), Eng.V.c (Value.string r7.2.2.2.2.1), Eng.V.c (Value.string r7.2.2.2.2.2.1), Eng.V.c (Value.string r7.2.2.2.2.2.2.1), Eng.V.c (Value.string r7.2.2.2.2.2.2.2.1), Eng.V.c (Value.string r7.2.2.2.2.2.2.2.2.1), Eng.V.c (Value.string r7.2.2.2.2.2.2.2.2.2.1), Eng.V.c (Value.string r7.2.2.2.2.2.2.2.2.2.2.1), Eng.V.c (Value.string r7.2.2.2.2.2.2.2.2.2.2.2.1)][Int.toNat (w64 (r4 - 1)) * (1 : Nat)]?) False fun t8 =>
 (if (0 :Int) ≤ 3 ∧ 3 ≤ (↑(ByteArray.size t8) : Int) then
 (if (0 :Int) ≤ 0 ∧ 0 < (↑(List.length (Eng.bytesV (ByteArray.extract t8 (0 : Nat) (3 : Nat)))) : Int) then
 (Eng.asInt IntKind.u8 (Eng.getC (Eng.bytesV (ByteArray.extract t8 (0 : Nat) (3 : Nat))) (0 : Nat) (0 : Nat)) False fun n9 =>
 (if (0 :Int) ≤ 0 ∧ 0 < (↑(List.length (Eng.bytesV (ByteArray.extract t8 (0 : Nat) (3 : Nat)))) : Int) then
 (if (0 : Nat) < List.length (Eng.bytesV (ByteArray.extract t8 (0 : Nat) (3 : Nat))) then
 (lt (List.set (Eng.bytesV (ByteArray.extract t8 (0 : Nat) (3 : Nat))) (0 : Nat) (Eng.setE (List.getD (Eng.bytesV (ByteArray.extract t8 (0 : Nat) (3 : Nat))) (0 : Nat) Eng.V.bad) (0 : Nat) [Eng.V.c (Value.int IntKind.u8 (wu8 (n9 - 32)))])) fun v10 =>
 (
 xitoa r3 (fun r11 =>
 (
 (if Eng.allU8 v10 then
 xitoa r5 (fun r12 =>
 (if Eng.roomOk (List.length [Eng.V.c (Value.string a0), Eng.V.c (Value.string r11), Eng.V.c (Value.string (Eng.packB v10)), Eng.V.c (Value.string r12)] + List.length a2) (16 : Nat) then
 (lt ([Eng.V.c (Value.string a0), Eng.V.c (Value.string r11), Eng.V.c (Value.string (Eng.packB v10)), Eng.V.c (Value.string r12)] ++ a2) fun v13 =>
 xjoin v13 (ByteArray.mk #[(9 : UInt8)]) (fun r14 =>
 (if (↑(ByteArray.size r14 + (1 : Nat)) : Int) > 9223372036854775807 then
 False
 else
 K (r14 ++ ByteArray.mk #[(10 : UInt8)]))))
 else
 False))
 else
 False)
 ∧
 xitoa r5 (fun r15 =>
 (if Eng.allU8 v10 then
 (if Eng.roomOk (List.length [Eng.V.c (Value.string a0), Eng.V.c (Value.string r11), Eng.V.c (Value.string (Eng.packB v10)), Eng.V.c (Value.string r15)] + List.length a2) (16 : Nat) then
 (lt ([Eng.V.c (Value.string a0), Eng.V.c (Value.string r11), Eng.V.c (Value.string (Eng.packB v10)), Eng.V.c (Value.string r15)] ++ a2) fun v16 =>
 xjoin v16 (ByteArray.mk #[(9 : UInt8)]) (fun r17 =>
 (if (↑(ByteArray.size r17 + (1 : Nat)) : Int) > 9223372036854775807 then
 False
 else
 K (r17 ++ ByteArray.mk #[(10 : UInt8)]))))
 else
 False)
 else
 False))))
 ∧
 (if Eng.allU8 v10 then
 xitoa r3 (fun r18 =>
 xitoa r5 (fun r19 =>
 (if Eng.roomOk (List.length [Eng.V.c (Value.string a0), Eng.V.c (Value.string r18), Eng.V.c (Value.string (Eng.packB v10)), Eng.V.c (Value.string r19)] + List.length a2) (16 : Nat) then
 (lt ([Eng.V.c (Value.string a0), Eng.V.c (Value.string r18), Eng.V.c (Value.string (Eng.packB v10)), Eng.V.c (Value.string r19)] ++ a2) fun v20 =>
 xjoin v20 (ByteArray.mk #[(9 : UInt8)]) (fun r21 =>
 (if (↑(ByteArray.size r21 + (1 : Nat)) : Int) > 9223372036854775807 then
 False
 else
 K (r21 ++ ByteArray.mk #[(10 : UInt8)]))))
 else
 False)))
 else
 False)))
 else
 False)
 else
 False))
 else
 False)
 else
 False))
 else
 False)))
def Xzic_write : Tzic_write := Yzic_write Xday_Date Xzic_names Xitoa Xjoin
def Jzic_write (X : Tzic_write) : Inst := mkI 34 pL66 .nil pL9 .nil X
def Izic_write : Inst := Jzic_write Xzic_write
theorem Ezic_write (xday_Date : Tday_Date) (xzic_names : Tzic_names) (xitoa : Titoa) (xjoin : Tjoin) : EqF Tryz.prog 44 gives Tryz.f34 [Jday_Date xday_Date, Jzic_names xzic_names, Jitoa xitoa, Jjoin xjoin] [] (Jzic_write (Yzic_write xday_Date xzic_names xitoa xjoin)) := fun x y K => by kernel_rfl
theorem Izic_write_ok : InstOk Tryz.prog G.1 Izic_write := iok (gives := gives) [] (okCons Iday_Date_ok (okCons Izic_names_ok (okCons Iitoa_ok (okCons Ijoin_ok okNil)))) 44 follows Tryz.func34 (by kernel_rfl) (fun x => by kernel_rfl) (Ezic_write Xday_Date Xzic_names Xitoa Xjoin)

/- epact/stamp.Clock -/
abbrev Tstamp_Clock : Type := Int → (Int → Int → Int → Bool → Prop) → Prop
def Ystamp_Clock (a0 : Int) (K : Int → Int → Int → Bool → Prop) : Prop :=
 (if decide (a0 < 0) then
 K 0 0 0 false
 else
 (if decide (a0 > 86400) then
 K 0 0 0 false
 else
 (if (a0 == 86400) then
 K 23 59 60 true
 else
 K (w64 (Int.tdiv a0 3600)) (Int.tmod (w64 (Int.tdiv a0 60)) 60) (Int.tmod a0 60) true)))
def Xstamp_Clock : Tstamp_Clock := Ystamp_Clock
def Jstamp_Clock (X : Tstamp_Clock) : Inst := mkI 91 pL1 .nil pL46 .nil X
def Istamp_Clock : Inst := Jstamp_Clock Xstamp_Clock
theorem Estamp_Clock : EqF Tryz.prog 23 gives Tryz.f91 [] [] (Jstamp_Clock (Ystamp_Clock)) := fun x y K => by kernel_rfl
theorem Istamp_Clock_ok : InstOk Tryz.prog G.1 Istamp_Clock := iok (gives := gives) [] okNil 23 follows Tryz.func91 (by kernel_rfl) (fun x => by kernel_rfl) (Estamp_Clock)

/- epact/stamp.fill -/
abbrev Tstamp_fill : Type := ByteArray → (List Eng.V) → Bool → Bool → (ByteArray → Prop) → Prop
def Lstamp_fill_0 (K : ByteArray → Prop) (a1 : (List Eng.V)) (a2 : Bool) (a3 : Bool) : (Q67 → Prop) → Q67 → Prop := fun k4 x5 =>
 (if decide (x5.1.2.2.2.2.1 ≥ 0) then
 (if 0 ≤ x5.1.2.2.2.2.1 ∧ x5.1.2.2.2.2.1 < (↑(List.length x5.2.2.1) : Int) then
 (Eng.asInt IntKind.u8 (Eng.getC x5.2.2.1 (Int.toNat x5.1.2.2.2.2.1) (0 : Nat)) False fun n6 =>
 (if (n6 != 48) then
 k4 (((), x5.1.2.1, (), w64 (x5.1.2.2.2.1 - 1), w64 (x5.1.2.2.2.2.1 - 1), ()), x5.2)
 else
 (if 0 ≤ x5.1.2.2.2.2.1 ∧ x5.1.2.2.2.2.1 < (↑(List.length x5.2.2.1) : Int) then
 (Eng.asInt IntKind.u8 (Eng.getC x5.2.2.1 (Int.toNat x5.1.2.2.2.2.1) (0 : Nat)) False fun n7 =>
 (if 0 ≤ x5.1.2.2.2.1 ∧ x5.1.2.2.2.1 < (↑(List.length x5.2.1.1) : Int) then
 (Eng.asInt IntKind.i64 (Eng.getC x5.2.1.1 (Int.toNat x5.1.2.2.2.1) (0 : Nat)) False fun n8 =>
 (lt (wu8 (n7 + wu8 (Int.tmod n8 10))) fun v9 =>
 (if 0 ≤ x5.1.2.2.2.2.1 ∧ x5.1.2.2.2.2.1 < (↑(List.length x5.2.2.1) : Int) then
 (if Int.toNat x5.1.2.2.2.2.1 < List.length x5.2.2.1 then
 (if 0 ≤ x5.1.2.2.2.1 ∧ x5.1.2.2.2.1 < (↑(List.length x5.2.1.1) : Int) then
 (Eng.asInt IntKind.i64 (Eng.getC x5.2.1.1 (Int.toNat x5.1.2.2.2.1) (0 : Nat)) False fun n10 =>
 (if 0 ≤ x5.1.2.2.2.1 ∧ x5.1.2.2.2.1 < (↑(List.length x5.2.1.1) : Int) then
 (if x5.2.1.2.2 = false then
 (if Int.toNat x5.1.2.2.2.1 < List.length x5.2.1.1 then
 (lt (List.set x5.2.1.1 (Int.toNat x5.1.2.2.2.1) (Eng.setE (List.getD x5.2.1.1 (Int.toNat x5.1.2.2.2.1) Eng.V.bad) (0 : Nat) [Eng.V.c (Value.int IntKind.i64 (w64 (Int.tdiv n10 10)))])) fun v11 =>
 k4 (((), x5.1.2.1, (), x5.1.2.2.2.1, w64 (x5.1.2.2.2.2.1 - 1), ()), (v11, x5.2.1.2), List.set x5.2.2.1 (Int.toNat x5.1.2.2.2.2.1) (Eng.setE (List.getD x5.2.2.1 (Int.toNat x5.1.2.2.2.2.1) Eng.V.bad) (0 : Nat) [Eng.V.c (Value.int IntKind.u8 v9)]), ()))
 else
 False)
 else
 False)
 else
 False))
 else
 False)
 else
 False)
 else
 False)))
 else
 False))
 else
 False)))
 else
 False)
 else
 (if Eng.allU8 x5.2.2.1 then
 K (Eng.packB x5.2.2.1)
 else
 False))
def Lstamp_fill_0p : Lp := ⟨242, [.trim 242], pT68, pH69, 0⟩
def Ystamp_fill (a0 : ByteArray) (a1 : (List Eng.V)) (a2 : Bool) (a3 : Bool) (K : ByteArray → Prop) : Prop :=
 lp (Lstamp_fill_0 K a1 a2 a3) (((), ByteArray.mk #[], (), w64 ((↑(List.length a1) : Int) - 1), w64 ((↑(List.length (Eng.bytesV a0)) : Int) - 1), ()), (a1, a2, a3), Eng.bytesV a0, ())
def Xstamp_fill : Tstamp_fill := Ystamp_fill
def Jstamp_fill (X : Tstamp_fill) : Inst := mkI 92 pL70 pH7 pL9 .nil X
def Istamp_fill : Inst := Jstamp_fill Xstamp_fill
theorem Estamp_fill : EqF Tryz.prog 47 gives Tryz.f92 [] [Lstamp_fill_0p] (Jstamp_fill (Ystamp_fill)) := fun x y K => by kernel_rfl
theorem Istamp_fill_ok : InstOk Tryz.prog G.1 Istamp_fill := iok (gives := gives) [Lstamp_fill_0p] okNil 47 follows Tryz.func92 (by kernel_rfl) (fun x => by kernel_rfl) (Estamp_fill)

/- epact/stamp.Text -/
abbrev Tstamp_Text : Type := Int → Int → (ByteArray → Bool → Prop) → Prop
def Ystamp_Text (xday_Date : Tday_Date) (xstamp_Clock : Tstamp_Clock) (xstamp_fill : Tstamp_fill) (a0 : Int) (a1 : Int) (K : ByteArray → Bool → Prop) : Prop :=
 xday_Date a0 (fun r2 r3 r4 r5 =>
 xstamp_Clock a1 (fun r6 r7 r8 r9 =>
 (if (!r5) then
 K (ByteArray.mk #[]) false
 else
 (if (!r9) then
 K (ByteArray.mk #[]) false
 else
 xstamp_fill (ByteArray.extract (ByteArray.mk #[(48 : UInt8), (48 : UInt8), (48 : UInt8), (48 : UInt8), (45 : UInt8), (48 : UInt8), (48 : UInt8), (45 : UInt8), (48 : UInt8), (48 : UInt8), (84 : UInt8), (48 : UInt8), (48 : UInt8), (58 : UInt8), (48 : UInt8), (48 : UInt8), (58 : UInt8), (48 : UInt8), (48 : UInt8), (90 : UInt8)]) (0 : Nat) (19 : Nat)) ([Eng.V.c (Value.int IntKind.i64 r2), Eng.V.c (Value.int IntKind.i64 r3), Eng.V.c (Value.int IntKind.i64 r4), Eng.V.c (Value.int IntKind.i64 r6), Eng.V.c (Value.int IntKind.i64 r7), Eng.V.c (Value.int IntKind.i64 r8)]) true false (fun r10 =>
 (if (↑(ByteArray.size r10 + (1 : Nat)) : Int) > 9223372036854775807 then
 False
 else
 (lt (r10 ++ ByteArray.extract (ByteArray.mk #[(48 : UInt8), (48 : UInt8), (48 : UInt8), (48 : UInt8), (45 : UInt8), (48 : UInt8), (48 : UInt8), (45 : UInt8), (48 : UInt8), (48 : UInt8), (84 : UInt8), (48 : UInt8), (48 : UInt8), (58 : UInt8), (48 : UInt8), (48 : UInt8), (58 : UInt8), (48 : UInt8), (48 : UInt8), (90 : UInt8)]) (19 : Nat) (20 : Nat)) fun v11 =>
 K v11 true)))))))
def Xstamp_Text : Tstamp_Text := Ystamp_Text Xday_Date Xstamp_Clock Xstamp_fill
def Jstamp_Text (X : Tstamp_Text) : Inst := mkI 35 pL24 .nil pL71 .nil X
def Istamp_Text : Inst := Jstamp_Text Xstamp_Text
theorem Estamp_Text (xday_Date : Tday_Date) (xstamp_Clock : Tstamp_Clock) (xstamp_fill : Tstamp_fill) : EqF Tryz.prog 45 gives Tryz.f35 [Jday_Date xday_Date, Jstamp_Clock xstamp_Clock, Jstamp_fill xstamp_fill] [] (Jstamp_Text (Ystamp_Text xday_Date xstamp_Clock xstamp_fill)) := fun x y K => by kernel_rfl
theorem Istamp_Text_ok : InstOk Tryz.prog G.1 Istamp_Text := iok (gives := gives) [] (okCons Iday_Date_ok (okCons Istamp_Clock_ok (okCons Istamp_fill_ok okNil))) 45 follows Tryz.func35 (by kernel_rfl) (fun x => by kernel_rfl) (Estamp_Text Xday_Date Xstamp_Clock Xstamp_fill)

/- epact/zic.Text -/
abbrev Tzic_Text : Type := Q49 → (ByteArray → Bool → Prop) → Prop
def Lzic_Text_0 (xzic_write : Tzic_write) (xstamp_Text : Tstamp_Text) (K : ByteArray → Bool → Prop) : (Q72 → Prop) → Q72 → Prop := fun k2 x3 =>
 (if decide (x3.1.2.2.2.2.2.1 < x3.1.2.2.2.2.1) then
 (if 0 ≤ x3.1.2.2.2.2.2.1 ∧ x3.1.2.2.2.2.2.1 < (↑(List.length x3.1.2.2.2.1) : Int) then
 (Eng.asInt IntKind.i64 (Eng.getC x3.1.2.2.2.1 (Int.toNat x3.1.2.2.2.2.2.1) (0 : Nat)) False fun n4 =>
 (Eng.asInt IntKind.i64 (Eng.getC x3.1.2.2.2.1 (Int.toNat x3.1.2.2.2.2.2.1) (1 : Nat)) False fun n5 =>
 (Eng.asBool (Eng.getC x3.1.2.2.2.1 (Int.toNat x3.1.2.2.2.2.2.1) (2 : Nat)) False fun b6 =>
 (if decide (n5 < 0) then
 (if b6 then
 xzic_write (ByteArray.mk #[(76 : UInt8), (101 : UInt8), (97 : UInt8), (112 : UInt8)]) n4 ([Eng.V.c (Value.string (ByteArray.mk #[(50 : UInt8), (51 : UInt8), (58 : UInt8), (53 : UInt8), (57 : UInt8), (58 : UInt8), (53 : UInt8), (57 : UInt8)])), Eng.V.c (Value.string (ByteArray.mk #[(45 : UInt8)])), Eng.V.c (Value.string (ByteArray.mk #[(82 : UInt8)]))]) (fun r7 =>
 (if (↑(ByteArray.size x3.1.2.1 + ByteArray.size r7) : Int) > 9223372036854775807 then
 False
 else
 k2 (((), x3.1.2.1 ++ r7, x3.1.2.2.1, x3.1.2.2.2.1, x3.1.2.2.2.2.1, w64 (x3.1.2.2.2.2.2.1 + 1), ()), x3.2)))
 else
 xzic_write (ByteArray.mk #[(76 : UInt8), (101 : UInt8), (97 : UInt8), (112 : UInt8)]) n4 ([Eng.V.c (Value.string (ByteArray.mk #[(50 : UInt8), (51 : UInt8), (58 : UInt8), (53 : UInt8), (57 : UInt8), (58 : UInt8), (53 : UInt8), (57 : UInt8)])), Eng.V.c (Value.string (ByteArray.mk #[(45 : UInt8)])), Eng.V.c (Value.string (ByteArray.mk #[(83 : UInt8)]))]) (fun r8 =>
 (if (↑(ByteArray.size x3.1.2.1 + ByteArray.size r8) : Int) > 9223372036854775807 then
 False
 else
 k2 (((), x3.1.2.1 ++ r8, x3.1.2.2.1, x3.1.2.2.2.1, x3.1.2.2.2.2.1, w64 (x3.1.2.2.2.2.2.1 + 1), ()), x3.2))))
 else
 (if b6 then
 xzic_write (ByteArray.mk #[(76 : UInt8), (101 : UInt8), (97 : UInt8), (112 : UInt8)]) n4 ([Eng.V.c (Value.string (ByteArray.mk #[(50 : UInt8), (51 : UInt8), (58 : UInt8), (53 : UInt8), (57 : UInt8), (58 : UInt8), (54 : UInt8), (48 : UInt8)])), Eng.V.c (Value.string (ByteArray.mk #[(43 : UInt8)])), Eng.V.c (Value.string (ByteArray.mk #[(82 : UInt8)]))]) (fun r9 =>
 (if (↑(ByteArray.size x3.1.2.1 + ByteArray.size r9) : Int) > 9223372036854775807 then
 False
 else
 k2 (((), x3.1.2.1 ++ r9, x3.1.2.2.1, x3.1.2.2.2.1, x3.1.2.2.2.2.1, w64 (x3.1.2.2.2.2.2.1 + 1), ()), x3.2)))
 else
 xzic_write (ByteArray.mk #[(76 : UInt8), (101 : UInt8), (97 : UInt8), (112 : UInt8)]) n4 ([Eng.V.c (Value.string (ByteArray.mk #[(50 : UInt8), (51 : UInt8), (58 : UInt8), (53 : UInt8), (57 : UInt8), (58 : UInt8), (54 : UInt8), (48 : UInt8)])), Eng.V.c (Value.string (ByteArray.mk #[(43 : UInt8)])), Eng.V.c (Value.string (ByteArray.mk #[(83 : UInt8)]))]) (fun r10 =>
 (if (↑(ByteArray.size x3.1.2.1 + ByteArray.size r10) : Int) > 9223372036854775807 then
 False
 else
 k2 (((), x3.1.2.1 ++ r10, x3.1.2.2.1, x3.1.2.2.2.1, x3.1.2.2.2.2.1, w64 (x3.1.2.2.2.2.2.1 + 1), ()), x3.2))))))))
 else
 False)
 else
 (if x3.2.1.2.1 then
 xstamp_Text (w64 (Int.tdiv x3.2.1.2.2.1 86400)) (Int.tmod x3.2.1.2.2.1 86400) (fun r11 r12 =>
 (if (0 :Int) ≤ 19 ∧ 19 ≤ (↑(ByteArray.size r11) : Int) then
 xzic_write (ByteArray.mk #[(69 : UInt8), (120 : UInt8), (112 : UInt8), (105 : UInt8), (114 : UInt8), (101 : UInt8), (115 : UInt8)]) (w64 (Int.tdiv x3.2.1.2.2.1 86400)) ([Eng.V.c (Value.string (ByteArray.extract r11 (11 : Nat) (19 : Nat)))]) (fun r13 =>
 (if (↑(ByteArray.size x3.1.2.1 + ByteArray.size r13) : Int) > 9223372036854775807 then
 False
 else
 K (x3.1.2.1 ++ r13) true))
 else
 False))
 else
 K x3.1.2.1 true))
def Lzic_Text_0p : Lp := ⟨229390, [.trim 229390], pT73, pH52, 0⟩
def Yzic_Text (xleap_Right : Tleap_Right) (xzic_write : Tzic_write) (xstamp_Text : Tstamp_Text) (a0 : Q49) (K : ByteArray → Bool → Prop) : Prop :=
 xleap_Right a0 (fun r1 =>
 (if (!r1) then
 K (ByteArray.mk #[]) false
 else
 lp (Lzic_Text_0 xzic_write xstamp_Text K) (((), ByteArray.mk #[], false, a0.1, (↑(List.length a0.1) : Int), 0, ()), a0, ())))
def Xzic_Text : Tzic_Text := Yzic_Text Xleap_Right Xzic_write Xstamp_Text
def Jzic_Text (X : Tzic_Text) : Inst := mkI 10 pL53 .nil pL71 .nil X
def Izic_Text : Inst := Jzic_Text Xzic_Text
theorem Ezic_Text (xleap_Right : Tleap_Right) (xzic_write : Tzic_write) (xstamp_Text : Tstamp_Text) : EqF Tryz.prog 58 gives Tryz.f10 [Jleap_Right xleap_Right, Jzic_write xzic_write, Jstamp_Text xstamp_Text] [Lzic_Text_0p] (Jzic_Text (Yzic_Text xleap_Right xzic_write xstamp_Text)) := fun x y K => by kernel_rfl
theorem Izic_Text_ok : InstOk Tryz.prog G.1 Izic_Text := iok (gives := gives) [Lzic_Text_0p] (okCons Ileap_Right_ok (okCons Izic_write_ok (okCons Istamp_Text_ok okNil))) 58 follows Tryz.func10 (by kernel_rfl) (fun x => by kernel_rfl) (Ezic_Text Xleap_Right Xzic_write Xstamp_Text)

/- epact/epactref09.Same -/
abbrev Tepactref09_Same : Type := Q49 → Q49 → (Bool → Prop) → Prop
def Lepactref09_Same_0 (K : Bool → Prop) : (Q74 → Prop) → Q74 → Prop := fun k2 x3 =>
 (if decide (x3.1.2.2.2.1 < (↑(List.length x3.2.1.1) : Int)) then
 (if 0 ≤ x3.1.2.2.2.1 ∧ x3.1.2.2.2.1 < (↑(List.length x3.2.1.1) : Int) then
 (Eng.asInt IntKind.i64 (Eng.getC x3.2.1.1 (Int.toNat x3.1.2.2.2.1) (0 : Nat)) False fun n4 =>
 (Eng.asInt IntKind.i64 (Eng.getC x3.2.1.1 (Int.toNat x3.1.2.2.2.1) (1 : Nat)) False fun n5 =>
 (Eng.asBool (Eng.getC x3.2.1.1 (Int.toNat x3.1.2.2.2.1) (2 : Nat)) False fun b6 =>
 (if 0 ≤ x3.1.2.2.2.1 ∧ x3.1.2.2.2.1 < (↑(List.length x3.2.2.1.1) : Int) then
 (Eng.asInt IntKind.i64 (Eng.getC x3.2.2.1.1 (Int.toNat x3.1.2.2.2.1) (0 : Nat)) False fun n7 =>
 (Eng.asInt IntKind.i64 (Eng.getC x3.2.2.1.1 (Int.toNat x3.1.2.2.2.1) (1 : Nat)) False fun n8 =>
 (Eng.asBool (Eng.getC x3.2.2.1.1 (Int.toNat x3.1.2.2.2.1) (2 : Nat)) False fun b9 =>
 (lt (!(n4 == n7 && (n5 == n8 && (b6 == b9 && true)))) fun v10 =>
 (if v10 then
 K false
 else
 k2 (((), (), x3.1.2.2.1, w64 (x3.1.2.2.2.1 + 1), ()), x3.2))))))
 else
 False))))
 else
 False)
 else
 K true)
def Lepactref09_Same_0p : Lp := ⟨60, [.trim 60], pT75, pH76, 0⟩
def Yepactref09_Same (a0 : Q49) (a1 : Q49) (K : Bool → Prop) : Prop :=
 (if ((↑(List.length a0.1) : Int) != (↑(List.length a1.1) : Int)) then
 K false
 else
 (if (!a0.2.1 == a1.2.1) then
 K false
 else
 (if (a0.2.2.1 != a1.2.2.1) then
 K false
 else
 lp (Lepactref09_Same_0 K) (((), (), false, 0, ()), a0, a1, ()))))
def Xepactref09_Same : Tepactref09_Same := Yepactref09_Same
def Jepactref09_Same (X : Tepactref09_Same) : Inst := mkI 16 pL77 .nil pL8 .nil X
def Iepactref09_Same : Inst := Jepactref09_Same Xepactref09_Same
theorem Eepactref09_Same : EqF Tryz.prog 45 gives Tryz.f16 [] [Lepactref09_Same_0p] (Jepactref09_Same (Yepactref09_Same)) := fun x y K => by kernel_rfl
theorem Iepactref09_Same_ok : InstOk Tryz.prog G.1 Iepactref09_Same := iok (gives := gives) [Lepactref09_Same_0p] okNil 45 follows Tryz.func16 (by kernel_rfl) (fun x => by kernel_rfl) (Eepactref09_Same)

/- epact/epactlaw11.small -/
abbrev Tepactlaw11_small : Type := (Bool → Prop) → Prop
def Yepactlaw11_small (xzic_Parse : Tzic_Parse) (xzic_Text : Tzic_Text) (xzic_Month : Tzic_Month) (xzic_Clock : Tzic_Clock) (xepactref09_Same : Tepactref09_Same) (K : Bool → Prop) : Prop :=
 xzic_Parse (ByteArray.mk (List.toArray (List.append [(35 : UInt8), (32 : UInt8), (120 : UInt8), (10 : UInt8), (76 : UInt8), (101 : UInt8), (97 : UInt8), (112 : UInt8), (9 : UInt8), (49 : UInt8), (57 : UInt8), (55 : UInt8), (50 : UInt8), (9 : UInt8), (74 : UInt8), (117 : UInt8), (110 : UInt8), (9 : UInt8), (51 : UInt8), (48 : UInt8), (9 : UInt8), (50 : UInt8), (51 : UInt8), (58 : UInt8), (53 : UInt8), (57 : UInt8), (58 : UInt8), (54 : UInt8), (48 : UInt8), (9 : UInt8), (43 : UInt8), (9 : UInt8), (83 : UInt8), (32 : UInt8), (35 : UInt8), (32 : UInt8), (121 : UInt8), (10 : UInt8), (10 : UInt8), (108 : UInt8), (101 : UInt8), (97 : UInt8), (112 : UInt8), (32 : UInt8), (49 : UInt8), (57 : UInt8), (55 : UInt8), (50 : UInt8), (32 : UInt8), (68 : UInt8), (69 : UInt8), (67 : UInt8)] [(69 : UInt8), (77 : UInt8), (66 : UInt8), (69 : UInt8), (82 : UInt8), (32 : UInt8), (51 : UInt8), (49 : UInt8), (32 : UInt8), (50 : UInt8), (51 : UInt8), (58 : UInt8), (53 : UInt8), (57 : UInt8), (58 : UInt8), (53 : UInt8), (57 : UInt8), (32 : UInt8), (45 : UInt8), (32 : UInt8), (114 : UInt8), (111 : UInt8), (108 : UInt8), (108 : UInt8), (10 : UInt8), (69 : UInt8), (120 : UInt8), (112 : UInt8), (105 : UInt8), (114 : UInt8), (101 : UInt8), (115 : UInt8), (32 : UInt8), (49 : UInt8), (57 : UInt8), (55 : UInt8), (52 : UInt8), (32 : UInt8), (74 : UInt8), (97 : UInt8), (110 : UInt8), (32 : UInt8), (49 : UInt8), (32 : UInt8), (48 : UInt8), (58 : UInt8), (48 : UInt8), (48 : UInt8), (58 : UInt8), (48 : UInt8), (53 : UInt8), (10 : UInt8)]))) (fun r0 r1 r2 r3 r4 =>
 xzic_Parse (ByteArray.mk #[(76 : UInt8), (101 : UInt8), (97 : UInt8), (112 : UInt8), (32 : UInt8), (49 : UInt8), (57 : UInt8), (55 : UInt8), (50 : UInt8), (32 : UInt8), (74 : UInt8), (117 : UInt8), (110 : UInt8), (32 : UInt8), (51 : UInt8), (48 : UInt8), (32 : UInt8), (50 : UInt8), (51 : UInt8), (58 : UInt8), (53 : UInt8), (57 : UInt8), (58 : UInt8), (53 : UInt8), (57 : UInt8), (32 : UInt8), (43 : UInt8), (32 : UInt8), (83 : UInt8)]) (fun r5 r6 r7 r8 r9 =>
 xzic_Parse (ByteArray.mk #[(10 : UInt8), (76 : UInt8), (101 : UInt8), (97 : UInt8), (112 : UInt8), (32 : UInt8), (49 : UInt8), (57 : UInt8), (55 : UInt8), (50 : UInt8), (32 : UInt8), (74 : UInt8), (117 : UInt8), (110 : UInt8), (32 : UInt8), (50 : UInt8), (57 : UInt8), (32 : UInt8), (50 : UInt8), (51 : UInt8), (58 : UInt8), (53 : UInt8), (57 : UInt8), (58 : UInt8), (54 : UInt8), (48 : UInt8), (32 : UInt8), (43 : UInt8), (32 : UInt8), (83 : UInt8)]) (fun r10 r11 r12 r13 r14 =>
 xzic_Parse (ByteArray.mk #[(76 : UInt8), (101 : UInt8), (97 : UInt8), (112 : UInt8), (32 : UInt8), (49 : UInt8), (57 : UInt8), (55 : UInt8), (50 : UInt8), (32 : UInt8), (74 : UInt8), (117 : UInt8), (110 : UInt8), (32 : UInt8), (51 : UInt8), (49 : UInt8), (32 : UInt8), (50 : UInt8), (51 : UInt8), (58 : UInt8), (53 : UInt8), (57 : UInt8), (58 : UInt8), (54 : UInt8), (48 : UInt8), (32 : UInt8), (43 : UInt8), (32 : UInt8), (83 : UInt8)]) (fun r15 r16 r17 r18 r19 =>
 xzic_Parse (ByteArray.mk #[(76 : UInt8), (101 : UInt8), (97 : UInt8), (112 : UInt8), (32 : UInt8), (49 : UInt8), (57 : UInt8), (55 : UInt8), (50 : UInt8), (32 : UInt8), (74 : UInt8), (117 : UInt8), (32 : UInt8), (51 : UInt8), (48 : UInt8), (32 : UInt8), (50 : UInt8), (51 : UInt8), (58 : UInt8), (53 : UInt8), (57 : UInt8), (58 : UInt8), (54 : UInt8), (48 : UInt8), (32 : UInt8), (43 : UInt8), (32 : UInt8), (83 : UInt8)]) (fun r20 r21 r22 r23 r24 =>
 xzic_Parse (ByteArray.mk #[(69 : UInt8), (120 : UInt8), (112 : UInt8), (105 : UInt8), (114 : UInt8), (101 : UInt8), (115 : UInt8), (32 : UInt8), (49 : UInt8), (57 : UInt8), (55 : UInt8), (51 : UInt8), (32 : UInt8), (74 : UInt8), (97 : UInt8), (110 : UInt8), (32 : UInt8), (49 : UInt8), (32 : UInt8), (48 : UInt8), (58 : UInt8), (48 : UInt8), (58 : UInt8), (48 : UInt8), (10 : UInt8), (69 : UInt8), (120 : UInt8), (112 : UInt8), (105 : UInt8), (114 : UInt8), (101 : UInt8), (115 : UInt8), (32 : UInt8), (49 : UInt8), (57 : UInt8), (55 : UInt8), (51 : UInt8), (32 : UInt8), (74 : UInt8), (97 : UInt8), (110 : UInt8), (32 : UInt8), (49 : UInt8), (32 : UInt8), (48 : UInt8), (58 : UInt8), (48 : UInt8), (58 : UInt8), (48 : UInt8)]) (fun r25 r26 r27 r28 r29 =>
 xzic_Text ([Eng.V.agg [Eng.V.c (Value.int IntKind.i64 911), Eng.V.c (Value.int IntKind.i64 1), Eng.V.c (Value.bool false)], Eng.V.agg [Eng.V.c (Value.int IntKind.i64 1095), Eng.V.c (Value.int IntKind.i64 (-1)), Eng.V.c (Value.bool true)]], true, 126230405, ()) (fun r30 r31 =>
 xzic_Parse r30 (fun r32 r33 r34 r35 r36 =>
 xzic_Month (ByteArray.mk #[(115 : UInt8), (69 : UInt8), (112 : UInt8), (116 : UInt8)]) (fun r37 r38 =>
 xzic_Month (ByteArray.mk #[(109 : UInt8), (97 : UInt8)]) (fun r39 r40 =>
 xzic_Clock (ByteArray.mk #[(49 : UInt8), (58 : UInt8), (50 : UInt8), (58 : UInt8), (51 : UInt8)]) (fun r41 r42 =>
 xzic_Clock (ByteArray.mk #[(49 : UInt8), (58 : UInt8), (50 : UInt8)]) (fun r43 r44 =>
 xzic_Clock (ByteArray.mk #[(48 : UInt8), (48 : UInt8), (49 : UInt8), (58 : UInt8), (50 : UInt8), (58 : UInt8), (51 : UInt8)]) (fun r45 r46 =>
 xepactref09_Same (r2, r0.2) ([Eng.V.agg [Eng.V.c (Value.int IntKind.i64 911), Eng.V.c (Value.int IntKind.i64 1), Eng.V.c (Value.bool false)], Eng.V.agg [Eng.V.c (Value.int IntKind.i64 1095), Eng.V.c (Value.int IntKind.i64 (-1)), Eng.V.c (Value.bool true)]], true, 126230405, ()) (fun r47 =>
 (if r47 then
 (if (r1.1 == 0 && (r1.2.1 == 0 && true)) then
 (if (r6.1 == 1 && (r6.2.1 == 6 && true)) then
 (if (r11.1 == 2 && (r11.2.1 == 5 && true)) then
 (if (r16.1 == 1 && (r16.2.1 == 9 && true)) then
 (if (r21.1 == 1 && (r21.2.1 == 2 && true)) then
 (if (r26.1 == 2 && (r26.2.1 == 2 && true)) then
 (if r31 then
 xepactref09_Same (r34, r32.2) ([Eng.V.agg [Eng.V.c (Value.int IntKind.i64 911), Eng.V.c (Value.int IntKind.i64 1), Eng.V.c (Value.bool false)], Eng.V.agg [Eng.V.c (Value.int IntKind.i64 1095), Eng.V.c (Value.int IntKind.i64 (-1)), Eng.V.c (Value.bool true)]], true, 126230405, ()) (fun r48 =>
 (if r48 then
 (if (r33.1 == 0 && (r33.2.1 == 0 && true)) then
 (lt (ByteArray.toList r30 == ByteArray.toList (ByteArray.mk (List.toArray (List.append [(76 : UInt8), (101 : UInt8), (97 : UInt8), (112 : UInt8), (9 : UInt8), (49 : UInt8), (57 : UInt8), (55 : UInt8), (50 : UInt8), (9 : UInt8), (74 : UInt8), (117 : UInt8), (110 : UInt8), (9 : UInt8), (51 : UInt8), (48 : UInt8), (9 : UInt8), (50 : UInt8), (51 : UInt8), (58 : UInt8), (53 : UInt8), (57 : UInt8), (58 : UInt8), (54 : UInt8), (48 : UInt8), (9 : UInt8), (43 : UInt8), (9 : UInt8), (83 : UInt8), (10 : UInt8), (76 : UInt8), (101 : UInt8), (97 : UInt8), (112 : UInt8), (9 : UInt8), (49 : UInt8), (57 : UInt8), (55 : UInt8), (50 : UInt8), (9 : UInt8), (68 : UInt8), (101 : UInt8), (99 : UInt8), (9 : UInt8)] [(51 : UInt8), (49 : UInt8), (9 : UInt8), (50 : UInt8), (51 : UInt8), (58 : UInt8), (53 : UInt8), (57 : UInt8), (58 : UInt8), (53 : UInt8), (57 : UInt8), (9 : UInt8), (45 : UInt8), (9 : UInt8), (82 : UInt8), (10 : UInt8), (69 : UInt8), (120 : UInt8), (112 : UInt8), (105 : UInt8), (114 : UInt8), (101 : UInt8), (115 : UInt8), (9 : UInt8), (49 : UInt8), (57 : UInt8), (55 : UInt8), (52 : UInt8), (9 : UInt8), (74 : UInt8), (97 : UInt8), (110 : UInt8), (9 : UInt8), (49 : UInt8), (9 : UInt8), (48 : UInt8), (48 : UInt8), (58 : UInt8), (48 : UInt8), (48 : UInt8), (58 : UInt8), (48 : UInt8), (53 : UInt8), (10 : UInt8)])))) fun v49 =>
 (if v49 then
 (if (r37 == 9) then
 (if r38 then
 (if (!r40) then
 (if (r41 == 3723) then
 (if r42 then
 (if (!r44) then
 K !r46
 else
 K false)
 else
 K false)
 else
 K false)
 else
 K false)
 else
 K false)
 else
 K false)
 else
 K false))
 else
 K false)
 else
 K false))
 else
 K false)
 else
 K false)
 else
 K false)
 else
 K false)
 else
 K false)
 else
 K false)
 else
 K false)
 else
 K false)))))))))))))))
def Xepactlaw11_small : Tepactlaw11_small := Yepactlaw11_small Xzic_Parse Xzic_Text Xzic_Month Xzic_Clock Xepactref09_Same
def Jepactlaw11_small (X : Tepactlaw11_small) : Inst := mkI 6 .nil .nil pL8 .nil X
def Iepactlaw11_small : Inst := Jepactlaw11_small Xepactlaw11_small
theorem Eepactlaw11_small (xzic_Parse : Tzic_Parse) (xzic_Text : Tzic_Text) (xzic_Month : Tzic_Month) (xzic_Clock : Tzic_Clock) (xepactref09_Same : Tepactref09_Same) : EqF Tryz.prog 162 gives Tryz.f6 [Jzic_Parse xzic_Parse, Jzic_Text xzic_Text, Jzic_Month xzic_Month, Jzic_Clock xzic_Clock, Jepactref09_Same xepactref09_Same] [] (Jepactlaw11_small (Yepactlaw11_small xzic_Parse xzic_Text xzic_Month xzic_Clock xepactref09_Same)) := fun x y K => by kernel_rfl
theorem Iepactlaw11_small_ok : InstOk Tryz.prog G.1 Iepactlaw11_small := iok (gives := gives) [] (okCons Izic_Parse_ok (okCons Izic_Text_ok (okCons Izic_Month_ok (okCons Izic_Clock_ok (okCons Iepactref09_Same_ok okNil))))) 162 follows Tryz.func6 (by kernel_rfl) (fun x => by kernel_rfl) (Eepactlaw11_small Xzic_Parse Xzic_Text Xzic_Month Xzic_Clock Xepactref09_Same)

/- epact/epactlaw09.Few -/
abbrev Tepactlaw09_Few : Type := Q49 → (Bool → Prop) → Prop
def Yepactlaw09_Few (a0 : Q49) (K : Bool → Prop) : Prop :=
 K (decide ((↑(List.length a0.1) : Int) ≤ 300))
def Xepactlaw09_Few : Tepactlaw09_Few := Yepactlaw09_Few
def Jepactlaw09_Few (X : Tepactlaw09_Few) : Inst := mkI 7 pL53 .nil pL8 .nil X
def Iepactlaw09_Few : Inst := Jepactlaw09_Few Xepactlaw09_Few
theorem Eepactlaw09_Few : EqF Tryz.prog 7 gives Tryz.f7 [] [] (Jepactlaw09_Few (Yepactlaw09_Few)) := fun x y K => by kernel_rfl
theorem Iepactlaw09_Few_ok : InstOk Tryz.prog G.1 Iepactlaw09_Few := iok (gives := gives) [] okNil 7 follows Tryz.func7 (by kernel_rfl) (fun x => by kernel_rfl) (Eepactlaw09_Few)

/- epact/epactref05.trimmed -/
abbrev Tepactref05_trimmed : Type := ByteArray → (ByteArray → Prop) → Prop
def Yepactref05_trimmed (a0 : ByteArray) (K : ByteArray → Prop) : Prop :=
 (if decide ((↑(ByteArray.size a0) : Int) > 0) then
 (if 0 ≤ w64 ((↑(ByteArray.size a0) : Int) - 1) ∧ w64 ((↑(ByteArray.size a0) : Int) - 1) < (↑(ByteArray.size a0) : Int) then
 (if (Eng.bAt a0 (Int.toNat (w64 ((↑(ByteArray.size a0) : Int) - 1))) == 13) then
 (if 0 ≤ w64 ((↑(ByteArray.size a0) : Int) - 1) ∧ w64 ((↑(ByteArray.size a0) : Int) - 1) ≤ (↑(ByteArray.size a0) : Int) then
 (if (0 :Int) ≤ 0 ∧ 0 ≤ w64 ((↑(ByteArray.size a0) : Int) - 1) then
 (lt (ByteArray.extract a0 (0 : Nat) (Int.toNat (w64 ((↑(ByteArray.size a0) : Int) - 1)))) fun v1 =>
 K v1)
 else
 False)
 else
 False)
 else
 K a0)
 else
 False)
 else
 K a0)
def Xepactref05_trimmed : Tepactref05_trimmed := Yepactref05_trimmed
def Jepactref05_trimmed (X : Tepactref05_trimmed) : Inst := mkI 82 pL9 .nil pL9 .nil X
def Iepactref05_trimmed : Inst := Jepactref05_trimmed Xepactref05_trimmed
theorem Eepactref05_trimmed : EqF Tryz.prog 20 gives Tryz.f82 [] [] (Jepactref05_trimmed (Yepactref05_trimmed)) := fun x y K => by kernel_rfl
theorem Iepactref05_trimmed_ok : InstOk Tryz.prog G.1 Iepactref05_trimmed := iok (gives := gives) [] okNil 20 follows Tryz.func82 (by kernel_rfl) (fun x => by kernel_rfl) (Eepactref05_trimmed)

/- epact/epactref05.Split -/
abbrev Tepactref05_Split : Type := ByteArray → ((List Eng.V) → Bool → Bool → Prop) → Prop
def Lepactref05_Split_0 (xepactref05_trimmed : Tepactref05_trimmed) (K : (List Eng.V) → Bool → Bool → Prop) : (Q19 → Prop) → Q19 → Prop := fun k1 x2 =>
 (if decide (x2.1.2.2.2.2.1 < (↑(ByteArray.size x2.1.1) : Int)) then
 (if 0 ≤ x2.1.2.2.2.2.1 ∧ x2.1.2.2.2.2.1 < (↑(ByteArray.size x2.1.1) : Int) then
 (if (Eng.bAt x2.1.1 (Int.toNat x2.1.2.2.2.2.1) == 10) then
 (if 0 ≤ x2.1.2.2.2.2.1 ∧ x2.1.2.2.2.2.1 ≤ (↑(ByteArray.size x2.1.1) : Int) then
 (if 0 ≤ x2.1.2.2.2.1 ∧ x2.1.2.2.2.1 ≤ x2.1.2.2.2.2.1 then
 xepactref05_trimmed (ByteArray.extract x2.1.1 (Int.toNat x2.1.2.2.2.1) (Int.toNat x2.1.2.2.2.2.1)) (fun r3 =>
 (if Eng.roomOk (List.length x2.2.1 + List.length [Eng.V.c (Value.string r3)]) (16 : Nat) then
 k1 ((x2.1.1, (), (), w64 (x2.1.2.2.2.2.1 + 1), w64 (x2.1.2.2.2.2.1 + 1), ()), x2.2.1 ++ [Eng.V.c (Value.string r3)], ())
 else
 False))
 else
 False)
 else
 False)
 else
 k1 ((x2.1.1, (), (), x2.1.2.2.2.1, w64 (x2.1.2.2.2.2.1 + 1), ()), x2.2))
 else
 False)
 else
 (if decide (x2.1.2.2.2.1 < (↑(ByteArray.size x2.1.1) : Int)) then
 (if 0 ≤ (↑(ByteArray.size x2.1.1) : Int) ∧ (↑(ByteArray.size x2.1.1) : Int) ≤ (↑(ByteArray.size x2.1.1) : Int) then
 (if 0 ≤ x2.1.2.2.2.1 ∧ x2.1.2.2.2.1 ≤ (↑(ByteArray.size x2.1.1) : Int) then
 xepactref05_trimmed (ByteArray.extract x2.1.1 (Int.toNat x2.1.2.2.2.1) (Int.toNat (↑(ByteArray.size x2.1.1) : Int))) (fun r4 =>
 (if Eng.roomOk (List.length x2.2.1 + List.length [Eng.V.c (Value.string r4)]) (16 : Nat) then
 K (x2.2.1 ++ [Eng.V.c (Value.string r4)]) true false
 else
 False))
 else
 False)
 else
 False)
 else
 K x2.2.1 true false))
def Lepactref05_Split_0p : Lp := ⟨61, [.trim 61, .fat 3 1 672, .trim 61], pT78, pH79, 0⟩
def Yepactref05_Split (xepactref05_trimmed : Tepactref05_trimmed) (a0 : ByteArray) (K : (List Eng.V) → Bool → Bool → Prop) : Prop :=
 lp (Lepactref05_Split_0 xepactref05_trimmed K) ((a0, (), (), 0, 0, ()), [], ())
def Xepactref05_Split : Tepactref05_Split := Yepactref05_Split Xepactref05_trimmed
def Jepactref05_Split (X : Tepactref05_Split) : Inst := mkI 29 pL9 .nil pL6 pH7 X
def Iepactref05_Split : Inst := Jepactref05_Split Xepactref05_Split
theorem Eepactref05_Split (xepactref05_trimmed : Tepactref05_trimmed) : EqF Tryz.prog 38 gives Tryz.f29 [Jepactref05_trimmed xepactref05_trimmed] [Lepactref05_Split_0p] (Jepactref05_Split (Yepactref05_Split xepactref05_trimmed)) := fun x y K => by kernel_rfl
theorem Iepactref05_Split_ok : InstOk Tryz.prog G.1 Iepactref05_Split := iok (gives := gives) [Lepactref05_Split_0p] (okCons Iepactref05_trimmed_ok okNil) 38 follows Tryz.func29 (by kernel_rfl) (fun x => by kernel_rfl) (Eepactref05_Split Xepactref05_trimmed)

/- epact/epactref05.Cut -/
abbrev Tepactref05_Cut : Type := ByteArray → ByteArray → (ByteArray → ByteArray → Bool → Prop) → Prop
def Lepactref05_Cut_0 (K : ByteArray → ByteArray → Bool → Prop) : (Q80 → Prop) → Q80 → Prop := fun k2 x3 =>
 (if decide (w64 (x3.1.2.2.2.2.2.1 + (↑(ByteArray.size x3.1.2.1) : Int)) ≤ (↑(ByteArray.size x3.1.1) : Int)) then
 (if (!ByteArray.toList x3.1.2.1 == ByteArray.toList (ByteArray.mk #[])) then
 (if 0 ≤ w64 (x3.1.2.2.2.2.2.1 + (↑(ByteArray.size x3.1.2.1) : Int)) ∧ w64 (x3.1.2.2.2.2.2.1 + (↑(ByteArray.size x3.1.2.1) : Int)) ≤ (↑(ByteArray.size x3.1.1) : Int) then
 (if 0 ≤ x3.1.2.2.2.2.2.1 ∧ x3.1.2.2.2.2.2.1 ≤ w64 (x3.1.2.2.2.2.2.1 + (↑(ByteArray.size x3.1.2.1) : Int)) then
 (lt (ByteArray.extract x3.1.1 (Int.toNat x3.1.2.2.2.2.2.1) (Int.toNat (w64 (x3.1.2.2.2.2.2.1 + (↑(ByteArray.size x3.1.2.1) : Int))))) fun v4 =>
 (if (ByteArray.toList v4 == ByteArray.toList x3.1.2.1) then
 (if 0 ≤ x3.1.2.2.2.2.2.1 ∧ x3.1.2.2.2.2.2.1 ≤ (↑(ByteArray.size x3.1.1) : Int) then
 (if (0 :Int) ≤ 0 ∧ 0 ≤ x3.1.2.2.2.2.2.1 then
 (if 0 ≤ (↑(ByteArray.size x3.1.1) : Int) ∧ (↑(ByteArray.size x3.1.1) : Int) ≤ (↑(ByteArray.size x3.1.1) : Int) then
 (if 0 ≤ w64 (x3.1.2.2.2.2.2.1 + (↑(ByteArray.size x3.1.2.1) : Int)) ∧ w64 (x3.1.2.2.2.2.2.1 + (↑(ByteArray.size x3.1.2.1) : Int)) ≤ (↑(ByteArray.size x3.1.1) : Int) then
 (lt (ByteArray.extract x3.1.1 (Int.toNat (w64 (x3.1.2.2.2.2.2.1 + (↑(ByteArray.size x3.1.2.1) : Int)))) (Int.toNat (↑(ByteArray.size x3.1.1) : Int))) fun v5 =>
 K (ByteArray.extract x3.1.1 (0 : Nat) (Int.toNat x3.1.2.2.2.2.2.1)) v5 true)
 else
 False)
 else
 False)
 else
 False)
 else
 False)
 else
 k2 ((x3.1.1, x3.1.2.1, x3.1.2.2.1, x3.1.2.2.2.1, x3.1.2.2.2.2.1, w64 (x3.1.2.2.2.2.2.1 + 1), ()), ())))
 else
 False)
 else
 False)
 else
 K x3.1.1 (ByteArray.mk #[]) false)
 else
 K x3.1.1 (ByteArray.mk #[]) false)
def Lepactref05_Cut_0p : Lp := ⟨243, [.trim 243], pT81, .nil, 0⟩
def Yepactref05_Cut (a0 : ByteArray) (a1 : ByteArray) (K : ByteArray → ByteArray → Bool → Prop) : Prop :=
 lp (Lepactref05_Cut_0 K) ((a0, a1, ByteArray.mk #[], ByteArray.mk #[], false, 0, ()), ())
def Xepactref05_Cut : Tepactref05_Cut := Yepactref05_Cut
def Jepactref05_Cut (X : Tepactref05_Cut) : Inst := mkI 48 pL0 .nil pL15 .nil X
def Iepactref05_Cut : Inst := Jepactref05_Cut Xepactref05_Cut
theorem Eepactref05_Cut : EqF Tryz.prog 40 gives Tryz.f48 [] [Lepactref05_Cut_0p] (Jepactref05_Cut (Yepactref05_Cut)) := fun x y K => by kernel_rfl
theorem Iepactref05_Cut_ok : InstOk Tryz.prog G.1 Iepactref05_Cut := iok (gives := gives) [Lepactref05_Cut_0p] okNil 40 follows Tryz.func48 (by kernel_rfl) (fun x => by kernel_rfl) (Eepactref05_Cut)

/- epact/epactref05.blank -/
abbrev Tepactref05_blank : Type := Int → (Bool → Prop) → Prop
def Yepactref05_blank (a0 : Int) (K : Bool → Prop) : Prop :=
 (if (a0 == 32) then
 K true
 else
 K (a0 == 9))
def Xepactref05_blank : Tepactref05_blank := Yepactref05_blank
def Jepactref05_blank (X : Tepactref05_blank) : Inst := mkI 139 pL82 .nil pL8 .nil X
def Iepactref05_blank : Inst := Jepactref05_blank Xepactref05_blank
theorem Eepactref05_blank : EqF Tryz.prog 9 gives Tryz.f139 [] [] (Jepactref05_blank (Yepactref05_blank)) := fun x y K => by kernel_rfl
theorem Iepactref05_blank_ok : InstOk Tryz.prog G.1 Iepactref05_blank := iok (gives := gives) [] okNil 9 follows Tryz.func139 (by kernel_rfl) (fun x => by kernel_rfl) (Eepactref05_blank)

/- epact/epactref05.Words -/
abbrev Tepactref05_Words : Type := ByteArray → ((List Eng.V) → Bool → Bool → Prop) → Prop
def Lepactref05_Words_1 (xepactref05_blank : Tepactref05_blank) (K : (List Eng.V) → Bool → Bool → Prop) (k1 : Q83 → Prop) : (Q19 → Prop) → Q19 → Prop := fun k4 x5 =>
 (if decide (x5.1.2.2.2.1 < (↑(ByteArray.size x5.1.1) : Int)) then
 (if 0 ≤ x5.1.2.2.2.1 ∧ x5.1.2.2.2.1 < (↑(ByteArray.size x5.1.1) : Int) then
 xepactref05_blank (Eng.bAt x5.1.1 (Int.toNat x5.1.2.2.2.1)) (fun r6 =>
 (if (!r6) then
 k4 ((x5.1.1, (), (), w64 (x5.1.2.2.2.1 + 1), x5.1.2.2.2.2), x5.2)
 else
 (if 0 ≤ x5.1.2.2.2.1 ∧ x5.1.2.2.2.1 ≤ (↑(ByteArray.size x5.1.1) : Int) then
 (if 0 ≤ x5.1.2.2.2.2.1 ∧ x5.1.2.2.2.2.1 ≤ x5.1.2.2.2.1 then
 (if Eng.roomOk (List.length x5.2.1 + List.length [Eng.V.c (Value.string (ByteArray.extract x5.1.1 (Int.toNat x5.1.2.2.2.2.1) (Int.toNat x5.1.2.2.2.1)))]) (16 : Nat) then
 k1 ((x5.1.1, (), (), w64 (x5.1.2.2.2.1 + 1), ()), x5.2.1 ++ [Eng.V.c (Value.string (ByteArray.extract x5.1.1 (Int.toNat x5.1.2.2.2.2.1) (Int.toNat x5.1.2.2.2.1)))], ())
 else
 False)
 else
 False)
 else
 False)))
 else
 False)
 else
 (if 0 ≤ x5.1.2.2.2.1 ∧ x5.1.2.2.2.1 ≤ (↑(ByteArray.size x5.1.1) : Int) then
 (if 0 ≤ x5.1.2.2.2.2.1 ∧ x5.1.2.2.2.2.1 ≤ x5.1.2.2.2.1 then
 (if Eng.roomOk (List.length x5.2.1 + List.length [Eng.V.c (Value.string (ByteArray.extract x5.1.1 (Int.toNat x5.1.2.2.2.2.1) (Int.toNat x5.1.2.2.2.1)))]) (16 : Nat) then
 k1 ((x5.1.1, (), (), w64 (x5.1.2.2.2.1 + 1), ()), x5.2.1 ++ [Eng.V.c (Value.string (ByteArray.extract x5.1.1 (Int.toNat x5.1.2.2.2.2.1) (Int.toNat x5.1.2.2.2.1)))], ())
 else
 False)
 else
 False)
 else
 False))
def Lepactref05_Words_1p : Lp := ⟨61, [.trim 61], pT78, pH79, 0⟩
def Lepactref05_Words_0 (xepactref05_blank : Tepactref05_blank) (K : (List Eng.V) → Bool → Bool → Prop) : (Q83 → Prop) → Q83 → Prop := fun k1 x2 =>
 (if decide (x2.1.2.2.2.1 < (↑(ByteArray.size x2.1.1) : Int)) then
 (if 0 ≤ x2.1.2.2.2.1 ∧ x2.1.2.2.2.1 < (↑(ByteArray.size x2.1.1) : Int) then
 xepactref05_blank (Eng.bAt x2.1.1 (Int.toNat x2.1.2.2.2.1)) (fun r3 =>
 (if r3 then
 k1 ((x2.1.1, (), (), w64 (x2.1.2.2.2.1 + 1), ()), x2.2)
 else
 lp (Lepactref05_Words_1 xepactref05_blank K k1) ((x2.1.1, (), (), x2.1.2.2.2.1, x2.1.2.2.2), x2.2)))
 else
 False)
 else
 K x2.2.1 true false)
def Lepactref05_Words_0p : Lp := ⟨29, [.trim 29, .fat 3 1 672, .trim 29], pT84, pH79, 0⟩
def Yepactref05_Words (xepactref05_blank : Tepactref05_blank) (a0 : ByteArray) (K : (List Eng.V) → Bool → Bool → Prop) : Prop :=
 lp (Lepactref05_Words_0 xepactref05_blank K) ((a0, (), (), 0, ()), [], ())
def Xepactref05_Words : Tepactref05_Words := Yepactref05_Words Xepactref05_blank
def Jepactref05_Words (X : Tepactref05_Words) : Inst := mkI 108 pL9 .nil pL6 pH7 X
def Iepactref05_Words : Inst := Jepactref05_Words Xepactref05_Words
theorem Eepactref05_Words (xepactref05_blank : Tepactref05_blank) : EqF Tryz.prog 38 gives Tryz.f108 [Jepactref05_blank xepactref05_blank] [Lepactref05_Words_0p, Lepactref05_Words_1p] (Jepactref05_Words (Yepactref05_Words xepactref05_blank)) := fun x y K => by kernel_rfl
theorem Iepactref05_Words_ok : InstOk Tryz.prog G.1 Iepactref05_Words := iok (gives := gives) [Lepactref05_Words_0p, Lepactref05_Words_1p] (okCons Iepactref05_blank_ok okNil) 38 follows Tryz.func108 (by kernel_rfl) (fun x => by kernel_rfl) (Eepactref05_Words Xepactref05_blank)

/- epact/epactref11.words -/
abbrev Tepactref11_words : Type := ByteArray → ((List Eng.V) → Bool → Bool → Prop) → Prop
def Yepactref11_words (xepactref05_Cut : Tepactref05_Cut) (xepactref05_Words : Tepactref05_Words) (a0 : ByteArray) (K : (List Eng.V) → Bool → Bool → Prop) : Prop :=
 xepactref05_Cut a0 (ByteArray.mk #[(35 : UInt8)]) (fun r1 r2 r3 =>
 xepactref05_Words r1 (fun r4 r5 r6 =>
 K r4 r5 r6))
def Xepactref11_words : Tepactref11_words := Yepactref11_words Xepactref05_Cut Xepactref05_Words
def Jepactref11_words (X : Tepactref11_words) : Inst := mkI 83 pL9 .nil pL6 pH7 X
def Iepactref11_words : Inst := Jepactref11_words Xepactref11_words
theorem Eepactref11_words (xepactref05_Cut : Tepactref05_Cut) (xepactref05_Words : Tepactref05_Words) : EqF Tryz.prog 14 gives Tryz.f83 [Jepactref05_Cut xepactref05_Cut, Jepactref05_Words xepactref05_Words] [] (Jepactref11_words (Yepactref11_words xepactref05_Cut xepactref05_Words)) := fun x y K => by kernel_rfl
theorem Iepactref11_words_ok : InstOk Tryz.prog G.1 Iepactref11_words := iok (gives := gives) [] (okCons Iepactref05_Cut_ok (okCons Iepactref05_Words_ok okNil)) 14 follows Tryz.func83 (by kernel_rfl) (fun x => by kernel_rfl) (Eepactref11_words Xepactref05_Cut Xepactref05_Words)

/- epact/epactref05.Fold -/
abbrev Tepactref05_Fold : Type := ByteArray → (ByteArray → Prop) → Prop
def Lepactref05_Fold_0 (K : ByteArray → Prop) : (Q85 → Prop) → Q85 → Prop := fun k1 x2 =>
 (if decide (x2.1.2.2.2.1 < (↑(ByteArray.size x2.1.1) : Int)) then
 (if 0 ≤ x2.1.2.2.2.1 ∧ x2.1.2.2.2.1 < (↑(ByteArray.size x2.1.1) : Int) then
 (if decide (Eng.bAt x2.1.1 (Int.toNat x2.1.2.2.2.1) ≥ 65) then
 (if decide (Eng.bAt x2.1.1 (Int.toNat x2.1.2.2.2.1) ≤ 90) then
 (if Eng.roomOk (List.length x2.2.1 + List.length [Eng.V.c (Value.int IntKind.u8 (wu8 (Eng.bAt x2.1.1 (Int.toNat x2.1.2.2.2.1) + 32)))]) (1 : Nat) then
 (lt (x2.2.1 ++ [Eng.V.c (Value.int IntKind.u8 (wu8 (Eng.bAt x2.1.1 (Int.toNat x2.1.2.2.2.1) + 32)))]) fun v3 =>
 k1 ((x2.1.1, x2.1.2.1, (), w64 (x2.1.2.2.2.1 + 1), ()), v3, ()))
 else
 False)
 else
 (if Eng.roomOk (List.length x2.2.1 + List.length [Eng.V.c (Value.int IntKind.u8 (Eng.bAt x2.1.1 (Int.toNat x2.1.2.2.2.1)))]) (1 : Nat) then
 k1 ((x2.1.1, x2.1.2.1, (), w64 (x2.1.2.2.2.1 + 1), ()), x2.2.1 ++ [Eng.V.c (Value.int IntKind.u8 (Eng.bAt x2.1.1 (Int.toNat x2.1.2.2.2.1)))], ())
 else
 False))
 else
 (if Eng.roomOk (List.length x2.2.1 + List.length [Eng.V.c (Value.int IntKind.u8 (Eng.bAt x2.1.1 (Int.toNat x2.1.2.2.2.1)))]) (1 : Nat) then
 k1 ((x2.1.1, x2.1.2.1, (), w64 (x2.1.2.2.2.1 + 1), ()), x2.2.1 ++ [Eng.V.c (Value.int IntKind.u8 (Eng.bAt x2.1.1 (Int.toNat x2.1.2.2.2.1)))], ())
 else
 False))
 else
 False)
 else
 (if Eng.allU8 x2.2.1 then
 K (Eng.packB x2.2.1)
 else
 False))
def Lepactref05_Fold_0p : Lp := ⟨29, [.trim 29, .fat 3 1 528, .trim 29], pT86, pH87, 0⟩
def Yepactref05_Fold (a0 : ByteArray) (K : ByteArray → Prop) : Prop :=
 lp (Lepactref05_Fold_0 K) ((a0, ByteArray.mk #[], (), 0, ()), [], ())
def Xepactref05_Fold : Tepactref05_Fold := Yepactref05_Fold
def Jepactref05_Fold (X : Tepactref05_Fold) : Inst := mkI 42 pL9 .nil pL9 .nil X
def Iepactref05_Fold : Inst := Jepactref05_Fold Xepactref05_Fold
theorem Eepactref05_Fold : EqF Tryz.prog 29 gives Tryz.f42 [] [Lepactref05_Fold_0p] (Jepactref05_Fold (Yepactref05_Fold)) := fun x y K => by kernel_rfl
theorem Iepactref05_Fold_ok : InstOk Tryz.prog G.1 Iepactref05_Fold := iok (gives := gives) [Lepactref05_Fold_0p] okNil 29 follows Tryz.func42 (by kernel_rfl) (fun x => by kernel_rfl) (Eepactref05_Fold)

/- epact/epactref05.Number -/
abbrev Tepactref05_Number : Type := ByteArray → (Int → Bool → Prop) → Prop
def Lepactref05_Number_0 (K : Int → Bool → Prop) : (Q88 → Prop) → Q88 → Prop := fun k1 x2 =>
 (if decide (x2.1.2.2.2.2.1 < (↑(ByteArray.size x2.1.1) : Int)) then
 (if 0 ≤ x2.1.2.2.2.2.1 ∧ x2.1.2.2.2.2.1 < (↑(ByteArray.size x2.1.1) : Int) then
 (lt (w64 (w64 (Eng.bAt x2.1.1 (Int.toNat x2.1.2.2.2.2.1)) - 48)) fun v3 =>
 (if decide (v3 < 0) then
 K 0 false
 else
 (if decide (v3 > 9) then
 K 0 false
 else
 (lt (w64 (Int.tdiv (w64 (9223372036854775807 - v3)) 10)) fun v4 =>
 (if decide (x2.1.2.2.2.1 > v4) then
 K 0 false
 else
 (lt (w64 (w64 (10 * x2.1.2.2.2.1) + v3)) fun v5 =>
 k1 ((x2.1.1, x2.1.2.1, x2.1.2.2.1, v5, w64 (x2.1.2.2.2.2.1 + 1), ()), ())))))))
 else
 False)
 else
 K x2.1.2.2.2.1 (!ByteArray.toList x2.1.1 == ByteArray.toList (ByteArray.mk #[])))
def Lepactref05_Number_0p : Lp := ⟨61, [.trim 61], pT89, .nil, 0⟩
def Yepactref05_Number (a0 : ByteArray) (K : Int → Bool → Prop) : Prop :=
 lp (Lepactref05_Number_0 K) ((a0, 0, false, 0, 0, ()), ())
def Xepactref05_Number : Tepactref05_Number := Yepactref05_Number
def Jepactref05_Number (X : Tepactref05_Number) : Inst := mkI 49 pL9 .nil pL25 .nil X
def Iepactref05_Number : Inst := Jepactref05_Number Xepactref05_Number
theorem Eepactref05_Number : EqF Tryz.prog 38 gives Tryz.f49 [] [Lepactref05_Number_0p] (Jepactref05_Number (Yepactref05_Number)) := fun x y K => by kernel_rfl
theorem Iepactref05_Number_ok : InstOk Tryz.prog G.1 Iepactref05_Number := iok (gives := gives) [Lepactref05_Number_0p] okNil 38 follows Tryz.func49 (by kernel_rfl) (fun x => by kernel_rfl) (Eepactref05_Number)

end Go.Proofs.YtoiiblhbojhogaaGreatDoor
end
section
set_option linter.unusedVariables false
set_option linter.unusedSimpArgs false
namespace Go.Proofs.YtoiiblhbojhogaaGreatDoor
open Go Go.Proofs.YtoiiblhbojhogaaGreatDoor.Eng
set_option linter.unusedVariables false
set_option maxRecDepth 100000
set_option maxHeartbeats 4000000
variable {G : Gs}
/- epact/epactref11.months -/
abbrev Tepactref11_months : Type := ((List Eng.V) → Bool → Bool → Prop) → Prop
def Yepactref11_months (K : (List Eng.V) → Bool → Bool → Prop) : Prop :=
 K ([Eng.V.c (Value.string (ByteArray.mk #[(106 : UInt8), (97 : UInt8), (110 : UInt8), (117 : UInt8), (97 : UInt8), (114 : UInt8), (121 : UInt8)])), Eng.V.c (Value.string (ByteArray.mk #[(102 : UInt8), (101 : UInt8), (98 : UInt8), (114 : UInt8), (117 : UInt8), (97 : UInt8), (114 : UInt8), (121 : UInt8)])), Eng.V.c (Value.string (ByteArray.mk #[(109 : UInt8), (97 : UInt8), (114 : UInt8), (99 : UInt8), (104 : UInt8)])), Eng.V.c (Value.string (ByteArray.mk #[(97 : UInt8), (112 : UInt8), (114 : UInt8), (105 : UInt8), (108 : UInt8)])), Eng.V.c (Value.string (ByteArray.mk #[(109 : UInt8), (97 : UInt8), (121 : UInt8)])), Eng.V.c (Value.string (ByteArray.mk #[(106 : UInt8), (117 : UInt8), (110 : UInt8), (101 : UInt8)])), Eng.V.c (Value.string (ByteArray.mk #[(106 : UInt8), (117 : UInt8), (108 : UInt8), (121 : UInt8)])), Eng.V.c (Value.string (ByteArray.mk #[(97 : UInt8), (117 : UInt8), (103 : UInt8), (117 : UInt8), (115 : UInt8), (116 : UInt8)])), Eng.V.c (Value.string (ByteArray.mk #[(115 : UInt8), (101 : UInt8), (112 : UInt8), (116 : UInt8), (101 : UInt8), (109 : UInt8), (98 : UInt8), (101 : UInt8), (114 : UInt8)])), Eng.V.c (Value.string (ByteArray.mk #[(111 : UInt8), (99 : UInt8), (116 : UInt8), (111 : UInt8), (98 : UInt8), (101 : UInt8), (114 : UInt8)])), Eng.V.c (Value.string (ByteArray.mk #[(110 : UInt8), (111 : UInt8), (118 : UInt8), (101 : UInt8), (109 : UInt8), (98 : UInt8), (101 : UInt8), (114 : UInt8)])), Eng.V.c (Value.string (ByteArray.mk #[(100 : UInt8), (101 : UInt8), (99 : UInt8), (101 : UInt8), (109 : UInt8), (98 : UInt8), (101 : UInt8), (114 : UInt8)]))]) true false
def Xepactref11_months : Tepactref11_months := Yepactref11_months
def Jepactref11_months (X : Tepactref11_months) : Inst := mkI 43 .nil .nil pL6 pH7 X
def Iepactref11_months : Inst := Jepactref11_months Xepactref11_months
theorem Eepactref11_months : EqF Tryz.prog 2 gives Tryz.f43 [] [] (Jepactref11_months (Yepactref11_months)) := fun x y K => by kernel_rfl
theorem Iepactref11_months_ok : InstOk Tryz.prog G.1 Iepactref11_months := iok (gives := gives) [] okNil 2 follows Tryz.func43 (by kernel_rfl) (fun x => by kernel_rfl) (Eepactref11_months)

/- epact/epactref11.begins -/
abbrev Tepactref11_begins : Type := ByteArray → ByteArray → (Bool → Prop) → Prop
def Yepactref11_begins (a0 : ByteArray) (a1 : ByteArray) (K : Bool → Prop) : Prop :=
 (if decide ((↑(ByteArray.size a0) : Int) ≤ (↑(ByteArray.size a1) : Int)) then
 (if 0 ≤ (↑(ByteArray.size a0) : Int) ∧ (↑(ByteArray.size a0) : Int) ≤ (↑(ByteArray.size a1) : Int) then
 K (ByteArray.toList (ByteArray.extract a1 (0 : Nat) (Int.toNat (↑(ByteArray.size a0) : Int))) == ByteArray.toList a0)
 else
 False)
 else
 K false)
def Xepactref11_begins : Tepactref11_begins := Yepactref11_begins
def Jepactref11_begins (X : Tepactref11_begins) : Inst := mkI 44 pL0 .nil pL8 .nil X
def Iepactref11_begins : Inst := Jepactref11_begins Xepactref11_begins
theorem Eepactref11_begins : EqF Tryz.prog 18 gives Tryz.f44 [] [] (Jepactref11_begins (Yepactref11_begins)) := fun x y K => by kernel_rfl
theorem Iepactref11_begins_ok : InstOk Tryz.prog G.1 Iepactref11_begins := iok (gives := gives) [] okNil 18 follows Tryz.func44 (by kernel_rfl) (fun x => by kernel_rfl) (Eepactref11_begins)

/- epact/epactref11.Month -/
abbrev Tepactref11_Month : Type := ByteArray → (Int → Bool → Prop) → Prop
def Lepactref11_Month_0 (xepactref11_begins : Tepactref11_begins) (K : Int → Bool → Prop) : (Q90 → Prop) → Q90 → Prop := fun k5 x6 =>
 (if decide (x6.1.2.2.2.2.1 < 12) then
 (if decide ((↑(ByteArray.size x6.1.2.2.1) : Int) ≥ 3) then
 (if 0 ≤ x6.1.2.2.2.2.1 ∧ x6.1.2.2.2.2.1 < (↑(List.length x6.2.1.1) : Int) then
 (Eng.asStr (Eng.getC x6.2.1.1 (Int.toNat x6.1.2.2.2.2.1) (0 : Nat)) False fun t7 =>
 xepactref11_begins x6.1.2.2.1 t7 (fun r8 =>
 (if r8 then
 K (w64 (x6.1.2.2.2.2.1 + 1)) true
 else
 k5 ((x6.1.1, x6.1.2.1, x6.1.2.2.1, (), w64 (x6.1.2.2.2.2.1 + 1), ()), x6.2))))
 else
 False)
 else
 k5 ((x6.1.1, x6.1.2.1, x6.1.2.2.1, (), w64 (x6.1.2.2.2.2.1 + 1), ()), x6.2))
 else
 K 0 false)
def Lepactref11_Month_0p : Lp := ⟨124, [.trim 124], pT91, pH92, 0⟩
def Yepactref11_Month (xepactref05_Fold : Tepactref05_Fold) (xepactref11_months : Tepactref11_months) (xepactref11_begins : Tepactref11_begins) (a0 : ByteArray) (K : Int → Bool → Prop) : Prop :=
 xepactref05_Fold a0 (fun r1 =>
 xepactref11_months (fun r2 r3 r4 =>
 lp (Lepactref11_Month_0 xepactref11_begins K) ((0, false, r1, (), 0, ()), (r2, r3, r4), ())))
def Xepactref11_Month : Tepactref11_Month := Yepactref11_Month Xepactref05_Fold Xepactref11_months Xepactref11_begins
def Jepactref11_Month (X : Tepactref11_Month) : Inst := mkI 13 pL9 .nil pL25 .nil X
def Iepactref11_Month : Inst := Jepactref11_Month Xepactref11_Month
theorem Eepactref11_Month (xepactref05_Fold : Tepactref05_Fold) (xepactref11_months : Tepactref11_months) (xepactref11_begins : Tepactref11_begins) : EqF Tryz.prog 27 gives Tryz.f13 [Jepactref05_Fold xepactref05_Fold, Jepactref11_months xepactref11_months, Jepactref11_begins xepactref11_begins] [Lepactref11_Month_0p] (Jepactref11_Month (Yepactref11_Month xepactref05_Fold xepactref11_months xepactref11_begins)) := fun x y K => by kernel_rfl
theorem Iepactref11_Month_ok : InstOk Tryz.prog G.1 Iepactref11_Month := iok (gives := gives) [Lepactref11_Month_0p] (okCons Iepactref05_Fold_ok (okCons Iepactref11_months_ok (okCons Iepactref11_begins_ok okNil))) 27 follows Tryz.func13 (by kernel_rfl) (fun x => by kernel_rfl) (Eepactref11_Month Xepactref05_Fold Xepactref11_months Xepactref11_begins)

/- epact/epactref04.Second -/
abbrev Tepactref04_Second : Type := Int → Int → Int → (Int → Bool → Prop) → Prop
def Yepactref04_Second (a0 : Int) (a1 : Int) (a2 : Int) (K : Int → Bool → Prop) : Prop :=
 (if (a0 == 23) then
 (if (a1 == 59) then
 (if decide (a0 < 0) then
 K 0 false
 else
 (if decide (a0 > 23) then
 K 0 false
 else
 (if decide (a1 < 0) then
 K 0 false
 else
 (if decide (a1 > 59) then
 K 0 false
 else
 (if decide (a2 < 0) then
 K 0 false
 else
 (if decide (a2 > 59) then
 (if (!a2 == 60) then
 K 0 false
 else
 (lt (w64 (w64 (3600 * a0) + w64 (60 * a1))) fun v3 =>
 K (w64 (v3 + a2)) true))
 else
 (lt (w64 (w64 (3600 * a0) + w64 (60 * a1))) fun v4 =>
 K (w64 (v4 + a2)) true)))))))
 else
 (if decide (a0 < 0) then
 K 0 false
 else
 (if decide (a0 > 23) then
 K 0 false
 else
 (if decide (a1 < 0) then
 K 0 false
 else
 (if decide (a1 > 59) then
 K 0 false
 else
 (if decide (a2 < 0) then
 K 0 false
 else
 (if decide (a2 > 59) then
 K 0 false
 else
 (lt (w64 (w64 (3600 * a0) + w64 (60 * a1))) fun v5 =>
 K (w64 (v5 + a2)) true))))))))
 else
 (if decide (a0 < 0) then
 K 0 false
 else
 (if decide (a0 > 23) then
 K 0 false
 else
 (if decide (a1 < 0) then
 K 0 false
 else
 (if decide (a1 > 59) then
 K 0 false
 else
 (if decide (a2 < 0) then
 K 0 false
 else
 (if decide (a2 > 59) then
 K 0 false
 else
 (lt (w64 (w64 (3600 * a0) + w64 (60 * a1))) fun v6 =>
 K (w64 (v6 + a2)) true))))))))
def Xepactref04_Second : Tepactref04_Second := Yepactref04_Second
def Jepactref04_Second (X : Tepactref04_Second) : Inst := mkI 50 pL34 .nil pL25 .nil X
def Iepactref04_Second : Inst := Jepactref04_Second Xepactref04_Second
theorem Eepactref04_Second : EqF Tryz.prog 52 gives Tryz.f50 [] [] (Jepactref04_Second (Yepactref04_Second)) := fun x y K => by kernel_rfl
theorem Iepactref04_Second_ok : InstOk Tryz.prog G.1 Iepactref04_Second := iok (gives := gives) [] okNil 52 follows Tryz.func50 (by kernel_rfl) (fun x => by kernel_rfl) (Eepactref04_Second)

/- epact/epactref11.Clock -/
abbrev Tepactref11_Clock : Type := ByteArray → (Int → Bool → Prop) → Prop
def Yepactref11_Clock (xepactref05_Cut : Tepactref05_Cut) (xepactref05_Number : Tepactref05_Number) (xepactref04_Second : Tepactref04_Second) (a0 : ByteArray) (K : Int → Bool → Prop) : Prop :=
 xepactref05_Cut a0 (ByteArray.mk #[(58 : UInt8)]) (fun r1 r2 r3 =>
 xepactref05_Cut r2 (ByteArray.mk #[(58 : UInt8)]) (fun r4 r5 r6 =>
 xepactref05_Number r1 (fun r7 r8 =>
 xepactref05_Number r4 (fun r9 r10 =>
 xepactref05_Number r5 (fun r11 r12 =>
 (if (!r3) then
 K 0 false
 else
 (if (!r6) then
 K 0 false
 else
 (if (!r8) then
 K 0 false
 else
 (if (!r10) then
 K 0 false
 else
 (if (!r12) then
 K 0 false
 else
 (if decide ((↑(ByteArray.size r1) : Int) > 2) then
 K 0 false
 else
 (if decide ((↑(ByteArray.size r4) : Int) > 2) then
 K 0 false
 else
 (if decide ((↑(ByteArray.size r5) : Int) > 2) then
 K 0 false
 else
 xepactref04_Second r7 r9 r11 (fun r13 r14 =>
 K r13 r14))))))))))))))
def Xepactref11_Clock : Tepactref11_Clock := Yepactref11_Clock Xepactref05_Cut Xepactref05_Number Xepactref04_Second
def Jepactref11_Clock (X : Tepactref11_Clock) : Inst := mkI 15 pL9 .nil pL25 .nil X
def Iepactref11_Clock : Inst := Jepactref11_Clock Xepactref11_Clock
theorem Eepactref11_Clock (xepactref05_Cut : Tepactref05_Cut) (xepactref05_Number : Tepactref05_Number) (xepactref04_Second : Tepactref04_Second) : EqF Tryz.prog 82 gives Tryz.f15 [Jepactref05_Cut xepactref05_Cut, Jepactref05_Number xepactref05_Number, Jepactref04_Second xepactref04_Second] [] (Jepactref11_Clock (Yepactref11_Clock xepactref05_Cut xepactref05_Number xepactref04_Second)) := fun x y K => by kernel_rfl
theorem Iepactref11_Clock_ok : InstOk Tryz.prog G.1 Iepactref11_Clock := iok (gives := gives) [] (okCons Iepactref05_Cut_ok (okCons Iepactref05_Number_ok (okCons Iepactref04_Second_ok okNil))) 82 follows Tryz.func15 (by kernel_rfl) (fun x => by kernel_rfl) (Eepactref11_Clock Xepactref05_Cut Xepactref05_Number Xepactref04_Second)

/- epact/epactref11.read -/
abbrev Tepactref11_read : Type := ByteArray → (Q38 → Prop) → Prop
def Yepactref11_read (xepactref11_words : Tepactref11_words) (xepactref05_Fold : Tepactref05_Fold) (xepactref05_Number : Tepactref05_Number) (xepactref11_Month : Tepactref11_Month) (xepactref11_Clock : Tepactref11_Clock) (xepactref11_begins : Tepactref11_begins) (a0 : ByteArray) (K : Q38 → Prop) : Prop :=
 xepactref11_words a0 (fun r1 r2 r3 =>
 (if ((↑(List.length r1) : Int) == 0) then
 K (0, 0, 0, 0, 0, ByteArray.mk #[], false, ())
 else
 (if (0 :Int) ≤ 0 ∧ 0 < (↑(List.length r1) : Int) then
 (Eng.asStr (Eng.getC r1 (0 : Nat) (0 : Nat)) False fun t4 =>
 xepactref05_Fold t4 (fun r5 =>
 (if (ByteArray.toList r5 == ByteArray.toList (ByteArray.mk #[(108 : UInt8), (101 : UInt8), (97 : UInt8), (112 : UInt8)])) then
 (if ((↑(List.length r1) : Int) == 7) then
 (if (0 :Int) ≤ 1 ∧ 1 < (↑(List.length r1) : Int) then
 (Eng.asStr (Eng.getC r1 (1 : Nat) (0 : Nat)) False fun t6 =>
 xepactref05_Number t6 (fun r7 r8 =>
 (if (0 :Int) ≤ 2 ∧ 2 < (↑(List.length r1) : Int) then
 (Eng.asStr (Eng.getC r1 (2 : Nat) (0 : Nat)) False fun t9 =>
 xepactref11_Month t9 (fun r10 r11 =>
 (if (0 :Int) ≤ 3 ∧ 3 < (↑(List.length r1) : Int) then
 (Eng.asStr (Eng.getC r1 (3 : Nat) (0 : Nat)) False fun t12 =>
 xepactref05_Number t12 (fun r13 r14 =>
 (if (0 :Int) ≤ 4 ∧ 4 < (↑(List.length r1) : Int) then
 (Eng.asStr (Eng.getC r1 (4 : Nat) (0 : Nat)) False fun t15 =>
 xepactref11_Clock t15 (fun r16 r17 =>
 (if (!r8) then
 K (3, 0, 0, 0, 0, ByteArray.mk #[], false, ())
 else
 (if (!r11) then
 K (3, 0, 0, 0, 0, ByteArray.mk #[], false, ())
 else
 (if (!r14) then
 K (3, 0, 0, 0, 0, ByteArray.mk #[], false, ())
 else
 (if (!r17) then
 K (3, 0, 0, 0, 0, ByteArray.mk #[], false, ())
 else
 (if (ByteArray.toList r5 == ByteArray.toList (ByteArray.mk #[(108 : UInt8), (101 : UInt8), (97 : UInt8), (112 : UInt8)])) then
 (if (0 :Int) ≤ 5 ∧ 5 < (↑(List.length r1) : Int) then
 (Eng.asStr (Eng.getC r1 (5 : Nat) (0 : Nat)) False fun t18 =>
 (if (0 :Int) ≤ 6 ∧ 6 < (↑(List.length r1) : Int) then
 (Eng.asStr (Eng.getC r1 (6 : Nat) (0 : Nat)) False fun t19 =>
 xepactref05_Fold t19 (fun r20 =>
 xepactref11_begins r20 (ByteArray.mk #[(114 : UInt8), (111 : UInt8), (108 : UInt8), (108 : UInt8), (105 : UInt8), (110 : UInt8), (103 : UInt8)]) (fun r21 =>
 (if (0 :Int) ≤ 5 ∧ 5 < (↑(List.length r1) : Int) then
 (Eng.asStr (Eng.getC r1 (5 : Nat) (0 : Nat)) False fun t22 =>
 (if (!ByteArray.toList t22 == ByteArray.toList (ByteArray.mk #[(43 : UInt8)])) then
 (if (0 :Int) ≤ 5 ∧ 5 < (↑(List.length r1) : Int) then
 (Eng.asStr (Eng.getC r1 (5 : Nat) (0 : Nat)) False fun t23 =>
 (if (!ByteArray.toList t23 == ByteArray.toList (ByteArray.mk #[(45 : UInt8)])) then
 K (3, 0, 0, 0, 0, ByteArray.mk #[], false, ())
 else
 (if (!r21) then
 xepactref11_begins r20 (ByteArray.mk #[(115 : UInt8), (116 : UInt8), (97 : UInt8), (116 : UInt8), (105 : UInt8), (111 : UInt8), (110 : UInt8), (97 : UInt8), (114 : UInt8), (121 : UInt8)]) (fun r24 =>
 (if (!r24) then
 K (3, 0, 0, 0, 0, ByteArray.mk #[], false, ())
 else
 K (1, r7, r10, r13, r16, t18, r21, ())))
 else
 K (1, r7, r10, r13, r16, t18, r21, ()))))
 else
 False)
 else
 (if (!r21) then
 xepactref11_begins r20 (ByteArray.mk #[(115 : UInt8), (116 : UInt8), (97 : UInt8), (116 : UInt8), (105 : UInt8), (111 : UInt8), (110 : UInt8), (97 : UInt8), (114 : UInt8), (121 : UInt8)]) (fun r25 =>
 (if (!r25) then
 K (3, 0, 0, 0, 0, ByteArray.mk #[], false, ())
 else
 K (1, r7, r10, r13, r16, t18, r21, ())))
 else
 K (1, r7, r10, r13, r16, t18, r21, ()))))
 else
 False))))
 else
 False))
 else
 False)
 else
 K (2, r7, r10, r13, r16, ByteArray.mk #[], false, ()))))))))
 else
 False)))
 else
 False)))
 else
 False)))
 else
 False)
 else
 (lt (ByteArray.toList r5 == ByteArray.toList (ByteArray.mk #[(101 : UInt8), (120 : UInt8), (112 : UInt8), (105 : UInt8), (114 : UInt8), (101 : UInt8), (115 : UInt8)])) fun v26 =>
 (if v26 then
 (if (!(↑(List.length r1) : Int) == 5) then
 K (3, 0, 0, 0, 0, ByteArray.mk #[], false, ())
 else
 (if (0 :Int) ≤ 1 ∧ 1 < (↑(List.length r1) : Int) then
 (Eng.asStr (Eng.getC r1 (1 : Nat) (0 : Nat)) False fun t27 =>
 xepactref05_Number t27 (fun r28 r29 =>
 (if (0 :Int) ≤ 2 ∧ 2 < (↑(List.length r1) : Int) then
 (Eng.asStr (Eng.getC r1 (2 : Nat) (0 : Nat)) False fun t30 =>
 xepactref11_Month t30 (fun r31 r32 =>
 (if (0 :Int) ≤ 3 ∧ 3 < (↑(List.length r1) : Int) then
 (Eng.asStr (Eng.getC r1 (3 : Nat) (0 : Nat)) False fun t33 =>
 xepactref05_Number t33 (fun r34 r35 =>
 (if (0 :Int) ≤ 4 ∧ 4 < (↑(List.length r1) : Int) then
 (Eng.asStr (Eng.getC r1 (4 : Nat) (0 : Nat)) False fun t36 =>
 xepactref11_Clock t36 (fun r37 r38 =>
 (if (!r29) then
 K (3, 0, 0, 0, 0, ByteArray.mk #[], false, ())
 else
 (if (!r32) then
 K (3, 0, 0, 0, 0, ByteArray.mk #[], false, ())
 else
 (if (!r35) then
 K (3, 0, 0, 0, 0, ByteArray.mk #[], false, ())
 else
 (if (!r38) then
 K (3, 0, 0, 0, 0, ByteArray.mk #[], false, ())
 else
 (if (ByteArray.toList r5 == ByteArray.toList (ByteArray.mk #[(108 : UInt8), (101 : UInt8), (97 : UInt8), (112 : UInt8)])) then
 (if (0 :Int) ≤ 5 ∧ 5 < (↑(List.length r1) : Int) then
 (Eng.asStr (Eng.getC r1 (5 : Nat) (0 : Nat)) False fun t39 =>
 (if (0 :Int) ≤ 6 ∧ 6 < (↑(List.length r1) : Int) then
 (Eng.asStr (Eng.getC r1 (6 : Nat) (0 : Nat)) False fun t40 =>
 xepactref05_Fold t40 (fun r41 =>
 xepactref11_begins r41 (ByteArray.mk #[(114 : UInt8), (111 : UInt8), (108 : UInt8), (108 : UInt8), (105 : UInt8), (110 : UInt8), (103 : UInt8)]) (fun r42 =>
 (if (0 :Int) ≤ 5 ∧ 5 < (↑(List.length r1) : Int) then
 (Eng.asStr (Eng.getC r1 (5 : Nat) (0 : Nat)) False fun t43 =>
 (if (!ByteArray.toList t43 == ByteArray.toList (ByteArray.mk #[(43 : UInt8)])) then
 (if (0 :Int) ≤ 5 ∧ 5 < (↑(List.length r1) : Int) then
 (Eng.asStr (Eng.getC r1 (5 : Nat) (0 : Nat)) False fun t44 =>
 (if (!ByteArray.toList t44 == ByteArray.toList (ByteArray.mk #[(45 : UInt8)])) then
 K (3, 0, 0, 0, 0, ByteArray.mk #[], false, ())
 else
 (if (!r42) then
 xepactref11_begins r41 (ByteArray.mk #[(115 : UInt8), (116 : UInt8), (97 : UInt8), (116 : UInt8), (105 : UInt8), (111 : UInt8), (110 : UInt8), (97 : UInt8), (114 : UInt8), (121 : UInt8)]) (fun r45 =>
 (if (!r45) then
 K (3, 0, 0, 0, 0, ByteArray.mk #[], false, ())
 else
 K (1, r28, r31, r34, r37, t39, r42, ())))
 else
 K (1, r28, r31, r34, r37, t39, r42, ()))))
 else
 False)
 else
 (if (!r42) then
 xepactref11_begins r41 (ByteArray.mk #[(115 : UInt8), (116 : UInt8), (97 : UInt8), (116 : UInt8), (105 : UInt8), (111 : UInt8), (110 : UInt8), (97 : UInt8), (114 : UInt8), (121 : UInt8)]) (fun r46 =>
 (if (!r46) then
 K (3, 0, 0, 0, 0, ByteArray.mk #[], false, ())
 else
 K (1, r28, r31, r34, r37, t39, r42, ())))
 else
 K (1, r28, r31, r34, r37, t39, r42, ()))))
 else
 False))))
 else
 False))
 else
 False)
 else
 K (2, r28, r31, r34, r37, ByteArray.mk #[], false, ()))))))))
 else
 False)))
 else
 False)))
 else
 False)))
 else
 False))
 else
 K (3, 0, 0, 0, 0, ByteArray.mk #[], false, ()))))
 else
 (lt (ByteArray.toList r5 == ByteArray.toList (ByteArray.mk #[(101 : UInt8), (120 : UInt8), (112 : UInt8), (105 : UInt8), (114 : UInt8), (101 : UInt8), (115 : UInt8)])) fun v47 =>
 (if v47 then
 (if (!(↑(List.length r1) : Int) == 5) then
 K (3, 0, 0, 0, 0, ByteArray.mk #[], false, ())
 else
 (if (0 :Int) ≤ 1 ∧ 1 < (↑(List.length r1) : Int) then
 (Eng.asStr (Eng.getC r1 (1 : Nat) (0 : Nat)) False fun t48 =>
 xepactref05_Number t48 (fun r49 r50 =>
 (if (0 :Int) ≤ 2 ∧ 2 < (↑(List.length r1) : Int) then
 (Eng.asStr (Eng.getC r1 (2 : Nat) (0 : Nat)) False fun t51 =>
 xepactref11_Month t51 (fun r52 r53 =>
 (if (0 :Int) ≤ 3 ∧ 3 < (↑(List.length r1) : Int) then
 (Eng.asStr (Eng.getC r1 (3 : Nat) (0 : Nat)) False fun t54 =>
 xepactref05_Number t54 (fun r55 r56 =>
 (if (0 :Int) ≤ 4 ∧ 4 < (↑(List.length r1) : Int) then
 (Eng.asStr (Eng.getC r1 (4 : Nat) (0 : Nat)) False fun t57 =>
 xepactref11_Clock t57 (fun r58 r59 =>
 (if (!r50) then
 K (3, 0, 0, 0, 0, ByteArray.mk #[], false, ())
 else
 (if (!r53) then
 K (3, 0, 0, 0, 0, ByteArray.mk #[], false, ())
 else
 (if (!r56) then
 K (3, 0, 0, 0, 0, ByteArray.mk #[], false, ())
 else
 (if (!r59) then
 K (3, 0, 0, 0, 0, ByteArray.mk #[], false, ())
 else
 (if (ByteArray.toList r5 == ByteArray.toList (ByteArray.mk #[(108 : UInt8), (101 : UInt8), (97 : UInt8), (112 : UInt8)])) then
 (if (0 :Int) ≤ 5 ∧ 5 < (↑(List.length r1) : Int) then
 (Eng.asStr (Eng.getC r1 (5 : Nat) (0 : Nat)) False fun t60 =>
 (if (0 :Int) ≤ 6 ∧ 6 < (↑(List.length r1) : Int) then
 (Eng.asStr (Eng.getC r1 (6 : Nat) (0 : Nat)) False fun t61 =>
 xepactref05_Fold t61 (fun r62 =>
 xepactref11_begins r62 (ByteArray.mk #[(114 : UInt8), (111 : UInt8), (108 : UInt8), (108 : UInt8), (105 : UInt8), (110 : UInt8), (103 : UInt8)]) (fun r63 =>
 (if (0 :Int) ≤ 5 ∧ 5 < (↑(List.length r1) : Int) then
 (Eng.asStr (Eng.getC r1 (5 : Nat) (0 : Nat)) False fun t64 =>
 (if (!ByteArray.toList t64 == ByteArray.toList (ByteArray.mk #[(43 : UInt8)])) then
 (if (0 :Int) ≤ 5 ∧ 5 < (↑(List.length r1) : Int) then
 (Eng.asStr (Eng.getC r1 (5 : Nat) (0 : Nat)) False fun t65 =>
 (if (!ByteArray.toList t65 == ByteArray.toList (ByteArray.mk #[(45 : UInt8)])) then
 K (3, 0, 0, 0, 0, ByteArray.mk #[], false, ())
 else
 (if (!r63) then
 xepactref11_begins r62 (ByteArray.mk #[(115 : UInt8), (116 : UInt8), (97 : UInt8), (116 : UInt8), (105 : UInt8), (111 : UInt8), (110 : UInt8), (97 : UInt8), (114 : UInt8), (121 : UInt8)]) (fun r66 =>
 (if (!r66) then
 K (3, 0, 0, 0, 0, ByteArray.mk #[], false, ())
 else
 K (1, r49, r52, r55, r58, t60, r63, ())))
 else
 K (1, r49, r52, r55, r58, t60, r63, ()))))
 else
 False)
 else
 (if (!r63) then
 xepactref11_begins r62 (ByteArray.mk #[(115 : UInt8), (116 : UInt8), (97 : UInt8), (116 : UInt8), (105 : UInt8), (111 : UInt8), (110 : UInt8), (97 : UInt8), (114 : UInt8), (121 : UInt8)]) (fun r67 =>
 (if (!r67) then
 K (3, 0, 0, 0, 0, ByteArray.mk #[], false, ())
 else
 K (1, r49, r52, r55, r58, t60, r63, ())))
 else
 K (1, r49, r52, r55, r58, t60, r63, ()))))
 else
 False))))
 else
 False))
 else
 False)
 else
 K (2, r49, r52, r55, r58, ByteArray.mk #[], false, ()))))))))
 else
 False)))
 else
 False)))
 else
 False)))
 else
 False))
 else
 K (3, 0, 0, 0, 0, ByteArray.mk #[], false, ()))))))
 else
 False)))
def Xepactref11_read : Tepactref11_read := Yepactref11_read Xepactref11_words Xepactref05_Fold Xepactref05_Number Xepactref11_Month Xepactref11_Clock Xepactref11_begins
def Jepactref11_read (X : Tepactref11_read) : Inst := mkI 30 pL9 .nil pL93 .nil X
def Iepactref11_read : Inst := Jepactref11_read Xepactref11_read
theorem Eepactref11_read (xepactref11_words : Tepactref11_words) (xepactref05_Fold : Tepactref05_Fold) (xepactref05_Number : Tepactref05_Number) (xepactref11_Month : Tepactref11_Month) (xepactref11_Clock : Tepactref11_Clock) (xepactref11_begins : Tepactref11_begins) : EqF Tryz.prog 129 gives Tryz.f30 [Jepactref11_words xepactref11_words, Jepactref05_Fold xepactref05_Fold, Jepactref05_Number xepactref05_Number, Jepactref11_Month xepactref11_Month, Jepactref11_Clock xepactref11_Clock, Jepactref11_begins xepactref11_begins] [] (Jepactref11_read (Yepactref11_read xepactref11_words xepactref05_Fold xepactref05_Number xepactref11_Month xepactref11_Clock xepactref11_begins)) := fun x y K => by kernel_rfl
theorem Iepactref11_read_ok : InstOk Tryz.prog G.1 Iepactref11_read := iok (gives := gives) [] (okCons Iepactref11_words_ok (okCons Iepactref05_Fold_ok (okCons Iepactref05_Number_ok (okCons Iepactref11_Month_ok (okCons Iepactref11_Clock_ok (okCons Iepactref11_begins_ok okNil)))))) 129 follows Tryz.func30 (by kernel_rfl) (fun x => by kernel_rfl) (Eepactref11_read Xepactref11_words Xepactref05_Fold Xepactref05_Number Xepactref11_Month Xepactref11_Clock Xepactref11_begins)

/- epact/epactref03.Leap -/
abbrev Tepactref03_Leap : Type := Int → (Bool → Prop) → Prop
def Yepactref03_Leap (a0 : Int) (K : Bool → Prop) : Prop :=
 (if (Int.tmod a0 (4 :Int) == 0) then
 (if (Int.tmod a0 (100 :Int) != 0) then
 K true
 else
 K (Int.tmod a0 (400 :Int) == 0))
 else
 K (Int.tmod a0 (400 :Int) == 0))
def Xepactref03_Leap : Tepactref03_Leap := Yepactref03_Leap
def Jepactref03_Leap (X : Tepactref03_Leap) : Inst := mkI 123 pL1 .nil pL8 .nil X
def Iepactref03_Leap : Inst := Jepactref03_Leap Xepactref03_Leap
theorem Eepactref03_Leap : EqF Tryz.prog 16 gives Tryz.f123 [] [] (Jepactref03_Leap (Yepactref03_Leap)) := fun x y K => by kernel_rfl
theorem Iepactref03_Leap_ok : InstOk Tryz.prog G.1 Iepactref03_Leap := iok (gives := gives) [] okNil 16 follows Tryz.func123 (by kernel_rfl) (fun x => by kernel_rfl) (Eepactref03_Leap)

/- epact/epactref03.days -/
abbrev Tepactref03_days : Type := Int → Int → (Int → Prop) → Prop
def Yepactref03_days (xepactref03_Leap : Tepactref03_Leap) (a0 : Int) (a1 : Int) (K : Int → Prop) : Prop :=
 (if (a1 == 2) then
 xepactref03_Leap a0 (fun r2 =>
 (if r2 then
 K 29
 else
 (if 0 ≤ w64 (a1 - 1) ∧ w64 (a1 - 1) < 12 then
 (Eng.asInt IntKind.i64 (Eng.getC [Eng.V.c (Value.int IntKind.i64 31), Eng.V.c (Value.int IntKind.i64 28), Eng.V.c (Value.int IntKind.i64 31), Eng.V.c (Value.int IntKind.i64 30), Eng.V.c (Value.int IntKind.i64 31), Eng.V.c (Value.int IntKind.i64 30), Eng.V.c (Value.int IntKind.i64 31), Eng.V.c (Value.int IntKind.i64 31), Eng.V.c (Value.int IntKind.i64 30), Eng.V.c (Value.int IntKind.i64 31), Eng.V.c (Value.int IntKind.i64 30), Eng.V.c (Value.int IntKind.i64 31)] (Int.toNat (w64 (a1 - 1))) (0 : Nat)) False fun n3 =>
 K n3)
 else
 False)))
 else
 (if 0 ≤ w64 (a1 - 1) ∧ w64 (a1 - 1) < 12 then
 (Eng.asInt IntKind.i64 (Eng.getC [Eng.V.c (Value.int IntKind.i64 31), Eng.V.c (Value.int IntKind.i64 28), Eng.V.c (Value.int IntKind.i64 31), Eng.V.c (Value.int IntKind.i64 30), Eng.V.c (Value.int IntKind.i64 31), Eng.V.c (Value.int IntKind.i64 30), Eng.V.c (Value.int IntKind.i64 31), Eng.V.c (Value.int IntKind.i64 31), Eng.V.c (Value.int IntKind.i64 30), Eng.V.c (Value.int IntKind.i64 31), Eng.V.c (Value.int IntKind.i64 30), Eng.V.c (Value.int IntKind.i64 31)] (Int.toNat (w64 (a1 - 1))) (0 : Nat)) False fun n4 =>
 K n4)
 else
 False))
def Xepactref03_days : Tepactref03_days := Yepactref03_days Xepactref03_Leap
def Jepactref03_days (X : Tepactref03_days) : Inst := mkI 87 pL24 .nil pL1 .nil X
def Iepactref03_days : Inst := Jepactref03_days Xepactref03_days
theorem Eepactref03_days (xepactref03_Leap : Tepactref03_Leap) : EqF Tryz.prog 18 gives Tryz.f87 [Jepactref03_Leap xepactref03_Leap] [] (Jepactref03_days (Yepactref03_days xepactref03_Leap)) := fun x y K => by kernel_rfl
theorem Iepactref03_days_ok : InstOk Tryz.prog G.1 Iepactref03_days := iok (gives := gives) [] (okCons Iepactref03_Leap_ok okNil) 18 follows Tryz.func87 (by kernel_rfl) (fun x => by kernel_rfl) (Eepactref03_days Xepactref03_Leap)

/- epact/epactref03.Last -/
abbrev Tepactref03_Last : Type := Int → Int → (Int → Bool → Prop) → Prop
def Yepactref03_Last (xepactref03_days : Tepactref03_days) (a0 : Int) (a1 : Int) (K : Int → Bool → Prop) : Prop :=
 (if decide (a0 < 1) then
 K 0 false
 else
 (if decide (a0 > 9999) then
 K 0 false
 else
 (if decide (a1 < 1) then
 K 0 false
 else
 (if decide (a1 > 12) then
 K 0 false
 else
 xepactref03_days a0 a1 (fun r2 =>
 K r2 true)))))
def Xepactref03_Last : Tepactref03_Last := Yepactref03_Last Xepactref03_days
def Jepactref03_Last (X : Tepactref03_Last) : Inst := mkI 85 pL24 .nil pL25 .nil X
def Iepactref03_Last : Inst := Jepactref03_Last Xepactref03_Last
theorem Eepactref03_Last (xepactref03_days : Tepactref03_days) : EqF Tryz.prog 23 gives Tryz.f85 [Jepactref03_days xepactref03_days] [] (Jepactref03_Last (Yepactref03_Last xepactref03_days)) := fun x y K => by kernel_rfl
theorem Iepactref03_Last_ok : InstOk Tryz.prog G.1 Iepactref03_Last := iok (gives := gives) [] (okCons Iepactref03_days_ok okNil) 23 follows Tryz.func85 (by kernel_rfl) (fun x => by kernel_rfl) (Eepactref03_Last Xepactref03_days)

/- epact/epactref03.first -/
abbrev Tepactref03_first : Type := Int → (Int → Prop) → Prop
def Yepactref03_first (a0 : Int) (K : Int → Prop) : Prop :=
 (lt (w64 (365 * w64 (a0 - 1))) fun v1 =>
 (lt (w64 (Int.tdiv (w64 (a0 - 1)) 4)) fun v2 =>
 (lt (w64 (Int.tdiv (w64 (a0 - 1)) 100)) fun v3 =>
 (lt (w64 (w64 (v1 + v2) - v3)) fun v4 =>
 (lt (w64 (Int.tdiv (w64 (a0 - 1)) 400)) fun v5 =>
 (lt (w64 (w64 (v4 + v5) + (-719162))) fun v6 =>
 K v6))))))
def Xepactref03_first : Tepactref03_first := Yepactref03_first
def Jepactref03_first (X : Tepactref03_first) : Inst := mkI 86 pL1 .nil pL1 .nil X
def Iepactref03_first : Inst := Jepactref03_first Xepactref03_first
theorem Eepactref03_first : EqF Tryz.prog 18 gives Tryz.f86 [] [] (Jepactref03_first (Yepactref03_first)) := fun x y K => by kernel_rfl
theorem Iepactref03_first_ok : InstOk Tryz.prog G.1 Iepactref03_first := iok (gives := gives) [] okNil 18 follows Tryz.func86 (by kernel_rfl) (fun x => by kernel_rfl) (Eepactref03_first)

/- epact/epactref03.Number -/
abbrev Tepactref03_Number : Type := Int → Int → Int → (Int → Bool → Prop) → Prop
def Lepactref03_Number_0 (xepactref03_days : Tepactref03_days) (K : Int → Bool → Prop) : (Q94 → Prop) → Q94 → Prop := fun k7 x8 =>
 (if decide (x8.1.2.2.2.2.2.1 < x8.1.2.1) then
 xepactref03_days x8.1.1 x8.1.2.2.2.2.2.1 (fun r9 =>
 k7 ((x8.1.1, x8.1.2.1, x8.1.2.2.1, x8.1.2.2.2.1, w64 (x8.1.2.2.2.2.1 + r9), w64 (x8.1.2.2.2.2.2.1 + 1), ()), ()))
 else
 K x8.1.2.2.2.2.1 true)
def Lepactref03_Number_0p : Lp := ⟨3267, [.trim 3267], pT95, .nil, 0⟩
def Yepactref03_Number (xepactref03_Last : Tepactref03_Last) (xepactref03_first : Tepactref03_first) (xepactref03_days : Tepactref03_days) (a0 : Int) (a1 : Int) (a2 : Int) (K : Int → Bool → Prop) : Prop :=
 xepactref03_Last a0 a1 (fun r3 r4 =>
 (if (!r4) then
 K 0 false
 else
 (if decide (a2 < 1) then
 K 0 false
 else
 (if decide (a2 > r3) then
 K 0 false
 else
 xepactref03_first a0 (fun r5 =>
 (lt (w64 (w64 (r5 + a2) - 1)) fun v6 =>
 lp (Lepactref03_Number_0 xepactref03_days K) ((a0, a1, 0, false, v6, 1, ()), ())))))))
def Xepactref03_Number : Tepactref03_Number := Yepactref03_Number Xepactref03_Last Xepactref03_first Xepactref03_days
def Jepactref03_Number (X : Tepactref03_Number) : Inst := mkI 32 pL34 .nil pL25 .nil X
def Iepactref03_Number : Inst := Jepactref03_Number Xepactref03_Number
theorem Eepactref03_Number (xepactref03_Last : Tepactref03_Last) (xepactref03_first : Tepactref03_first) (xepactref03_days : Tepactref03_days) : EqF Tryz.prog 45 gives Tryz.f32 [Jepactref03_Last xepactref03_Last, Jepactref03_first xepactref03_first, Jepactref03_days xepactref03_days] [Lepactref03_Number_0p] (Jepactref03_Number (Yepactref03_Number xepactref03_Last xepactref03_first xepactref03_days)) := fun x y K => by kernel_rfl
theorem Iepactref03_Number_ok : InstOk Tryz.prog G.1 Iepactref03_Number := iok (gives := gives) [Lepactref03_Number_0p] (okCons Iepactref03_Last_ok (okCons Iepactref03_first_ok (okCons Iepactref03_days_ok okNil))) 45 follows Tryz.func32 (by kernel_rfl) (fun x => by kernel_rfl) (Eepactref03_Number Xepactref03_Last Xepactref03_first Xepactref03_days)

/- epact/epactref09.Copy -/
abbrev Tepactref09_Copy : Type := Q49 → (Q54 → (List Eng.V) → Bool → Bool → Prop) → Prop
def Yepactref09_Copy (a0 : Q49) (K : Q54 → (List Eng.V) → Bool → Bool → Prop) : Prop :=
 (if Eng.roomOk ((0 : Nat) + List.length a0.1) (24 : Nat) then
 K ((), a0.2) ([] ++ a0.1) true false
 else
 False)
def Xepactref09_Copy : Tepactref09_Copy := Yepactref09_Copy
def Jepactref09_Copy (X : Tepactref09_Copy) : Inst := mkI 122 pL53 .nil pL96 pH45 X
def Iepactref09_Copy : Inst := Jepactref09_Copy Xepactref09_Copy
theorem Eepactref09_Copy : EqF Tryz.prog 9 gives Tryz.f122 [] [] (Jepactref09_Copy (Yepactref09_Copy)) := fun x y K => by kernel_rfl
theorem Iepactref09_Copy_ok : InstOk Tryz.prog G.1 Iepactref09_Copy := iok (gives := gives) [] okNil 9 follows Tryz.func122 (by kernel_rfl) (fun x => by kernel_rfl) (Eepactref09_Copy)

/- epact/epactref03.Date -/
abbrev Tepactref03_Date : Type := Int → (Int → Int → Int → Bool → Prop) → Prop
def Lepactref03_Date_1 (xepactref03_days : Tepactref03_days) (K : Int → Int → Int → Bool → Prop) (k2 : Q97 → Prop) : (Q98 → Prop) → Q98 → Prop := fun k6 x7 =>
 xepactref03_days x7.1.2.2.2.2.1 x7.1.2.2.2.2.2.2.1 (fun r8 =>
 (if decide (x7.1.2.2.2.2.2.1 ≥ r8) then
 xepactref03_days x7.1.2.2.2.2.1 x7.1.2.2.2.2.2.2.1 (fun r9 =>
 k6 ((x7.1.1, x7.1.2.1, x7.1.2.2.1, x7.1.2.2.2.1, x7.1.2.2.2.2.1, w64 (x7.1.2.2.2.2.2.1 - r9), w64 (x7.1.2.2.2.2.2.2.1 + 1), ()), ()))
 else
 K x7.1.2.2.2.2.1 x7.1.2.2.2.2.2.2.1 (w64 (x7.1.2.2.2.2.2.1 + 1)) true))
def Lepactref03_Date_1p : Lp := ⟨508, [.trim 508], pT99, .nil, 0⟩
def Lepactref03_Date_0 (xepactref03_first : Tepactref03_first) (xepactref03_days : Tepactref03_days) (K : Int → Int → Int → Bool → Prop) : (Q97 → Prop) → Q97 → Prop := fun k2 x3 =>
 xepactref03_first (w64 (x3.1.2.2.2.2.2.1 + 1)) (fun r4 =>
 (if decide (r4 ≤ x3.1.1) then
 k2 ((x3.1.1, x3.1.2.1, x3.1.2.2.1, x3.1.2.2.2.1, x3.1.2.2.2.2.1, w64 (x3.1.2.2.2.2.2.1 + 1), ()), ())
 else
 xepactref03_first x3.1.2.2.2.2.2.1 (fun r5 =>
 lp (Lepactref03_Date_1 xepactref03_days K k2) ((x3.1.2.1, x3.1.2.2.1, x3.1.2.2.2.1, x3.1.2.2.2.2.1, x3.1.2.2.2.2.2.1, w64 (x3.1.1 - r5), 1, ()), ()))))
def Lepactref03_Date_0p : Lp := ⟨125, [.trim 125], pT100, .nil, 0⟩
def Yepactref03_Date (xepactref03_first : Tepactref03_first) (xepactref03_days : Tepactref03_days) (a0 : Int) (K : Int → Int → Int → Bool → Prop) : Prop :=
 (if decide (a0 < (-719162)) then
 K 0 0 0 false
 else
 (if decide (a0 > 2932896) then
 K 0 0 0 false
 else
 (lt (w64 (Int.tdiv (w64 (a0 - (-719162))) 366)) fun v1 =>
 lp (Lepactref03_Date_0 xepactref03_first xepactref03_days K) ((a0, 0, 0, 0, false, w64 (v1 + 1), ()), ()))))
def Xepactref03_Date : Tepactref03_Date := Yepactref03_Date Xepactref03_first Xepactref03_days
def Jepactref03_Date (X : Tepactref03_Date) : Inst := mkI 93 pL1 .nil pL46 .nil X
def Iepactref03_Date : Inst := Jepactref03_Date Xepactref03_Date
theorem Eepactref03_Date (xepactref03_first : Tepactref03_first) (xepactref03_days : Tepactref03_days) : EqF Tryz.prog 46 gives Tryz.f93 [Jepactref03_first xepactref03_first, Jepactref03_days xepactref03_days] [Lepactref03_Date_0p, Lepactref03_Date_1p] (Jepactref03_Date (Yepactref03_Date xepactref03_first xepactref03_days)) := fun x y K => by kernel_rfl
theorem Iepactref03_Date_ok : InstOk Tryz.prog G.1 Iepactref03_Date := iok (gives := gives) [Lepactref03_Date_0p, Lepactref03_Date_1p] (okCons Iepactref03_first_ok (okCons Iepactref03_days_ok okNil)) 46 follows Tryz.func93 (by kernel_rfl) (fun x => by kernel_rfl) (Eepactref03_Date Xepactref03_first Xepactref03_days)

/- epact/epactref03.End -/
abbrev Tepactref03_End : Type := Int → (Bool → Prop) → Prop
def Yepactref03_End (xepactref03_Date : Tepactref03_Date) (xepactref03_days : Tepactref03_days) (a0 : Int) (K : Bool → Prop) : Prop :=
 xepactref03_Date a0 (fun r1 r2 r3 r4 =>
 (if r4 then
 xepactref03_days r1 r2 (fun r5 =>
 K (r3 == r5))
 else
 K false))
def Xepactref03_End : Tepactref03_End := Yepactref03_End Xepactref03_Date Xepactref03_days
def Jepactref03_End (X : Tepactref03_End) : Inst := mkI 152 pL1 .nil pL8 .nil X
def Iepactref03_End : Inst := Jepactref03_End Xepactref03_End
theorem Eepactref03_End (xepactref03_Date : Tepactref03_Date) (xepactref03_days : Tepactref03_days) : EqF Tryz.prog 22 gives Tryz.f152 [Jepactref03_Date xepactref03_Date, Jepactref03_days xepactref03_days] [] (Jepactref03_End (Yepactref03_End xepactref03_Date xepactref03_days)) := fun x y K => by kernel_rfl
theorem Iepactref03_End_ok : InstOk Tryz.prog G.1 Iepactref03_End := iok (gives := gives) [] (okCons Iepactref03_Date_ok (okCons Iepactref03_days_ok okNil)) 22 follows Tryz.func152 (by kernel_rfl) (fun x => by kernel_rfl) (Eepactref03_End Xepactref03_Date Xepactref03_days)

/- epact/epactref09.wrong -/
abbrev Tepactref09_wrong : Type := Q49 → Int → (Int → Prop) → Prop
def Yepactref09_wrong (xepactref03_End : Tepactref03_End) (a0 : Q49) (a1 : Int) (K : Int → Prop) : Prop :=
 (if 0 ≤ a1 ∧ a1 < (↑(List.length a0.1) : Int) then
 (Eng.asInt IntKind.i64 (Eng.getC a0.1 (Int.toNat a1) (0 : Nat)) False fun n2 =>
 (Eng.asInt IntKind.i64 (Eng.getC a0.1 (Int.toNat a1) (1 : Nat)) False fun n3 =>
 (Eng.asBool (Eng.getC a0.1 (Int.toNat a1) (2 : Nat)) False fun b4 =>
 (if decide (a1 ≥ 200) then
 K 8
 else
 (if decide (n2 < 730) then
 K 9
 else
 (if decide (n2 ≥ 2932896) then
 K 9
 else
 xepactref03_End n2 (fun r5 =>
 (if (!r5) then
 K 5
 else
 (if (n3 != 1) then
 (if (n3 != (-1)) then
 K 6
 else
 (if decide (a1 > 0) then
 (if 0 ≤ w64 (a1 - 1) ∧ w64 (a1 - 1) < (↑(List.length a0.1) : Int) then
 (Eng.asInt IntKind.i64 (Eng.getC a0.1 (Int.toNat (w64 (a1 - 1))) (0 : Nat)) False fun n6 =>
 (if decide (n2 ≤ n6) then
 K 4
 else
 K 0))
 else
 False)
 else
 K 0))
 else
 (if decide (a1 > 0) then
 (if 0 ≤ w64 (a1 - 1) ∧ w64 (a1 - 1) < (↑(List.length a0.1) : Int) then
 (Eng.asInt IntKind.i64 (Eng.getC a0.1 (Int.toNat (w64 (a1 - 1))) (0 : Nat)) False fun n7 =>
 (if decide (n2 ≤ n7) then
 K 4
 else
 K 0))
 else
 False)
 else
 K 0))))))))))
 else
 False)
def Xepactref09_wrong : Tepactref09_wrong := Yepactref09_wrong Xepactref03_End
def Jepactref09_wrong (X : Tepactref09_wrong) : Inst := mkI 124 pL101 .nil pL1 .nil X
def Iepactref09_wrong : Inst := Jepactref09_wrong Xepactref09_wrong
theorem Eepactref09_wrong (xepactref03_End : Tepactref03_End) : EqF Tryz.prog 47 gives Tryz.f124 [Jepactref03_End xepactref03_End] [] (Jepactref09_wrong (Yepactref09_wrong xepactref03_End)) := fun x y K => by kernel_rfl
theorem Iepactref09_wrong_ok : InstOk Tryz.prog G.1 Iepactref09_wrong := iok (gives := gives) [] (okCons Iepactref03_End_ok okNil) 47 follows Tryz.func124 (by kernel_rfl) (fun x => by kernel_rfl) (Eepactref09_wrong Xepactref03_End)

/- epact/epactref09.Check -/
abbrev Tepactref09_Check : Type := Q49 → (Int → Int → Prop) → Prop
def Lepactref09_Check_0 (xepactref09_wrong : Tepactref09_wrong) (K : Int → Int → Prop) : (Q102 → Prop) → Q102 → Prop := fun k1 x2 =>
 (if decide (x2.1.2.2.2.2.1 < (↑(List.length x2.2.1.1) : Int)) then
 xepactref09_wrong x2.2.1 x2.1.2.2.2.2.1 (fun r3 =>
 (if (r3 != 0) then
 K x2.1.2.2.2.2.1 r3
 else
 (if 0 ≤ x2.1.2.2.2.2.1 ∧ x2.1.2.2.2.2.1 < (↑(List.length x2.2.1.1) : Int) then
 (Eng.asInt IntKind.i64 (Eng.getC x2.2.1.1 (Int.toNat x2.1.2.2.2.2.1) (0 : Nat)) False fun n4 =>
 (lt (w64 (86400 * w64 (n4 + 1))) fun v5 =>
 k1 (((), x2.1.2.1, x2.1.2.2.1, v5, w64 (x2.1.2.2.2.2.1 + 1), ()), x2.2)))
 else
 False)))
 else
 (if x2.2.1.2.1 then
 (if decide (x2.2.1.2.2.1 < x2.1.2.2.2.1) then
 K (↑(List.length x2.2.1.1) : Int) 9
 else
 (if decide (x2.2.1.2.2.1 > 253402300799) then
 K (↑(List.length x2.2.1.1) : Int) 9
 else
 (if (!x2.2.1.2.1) then
 (if (x2.2.1.2.2.1 != 0) then
 K (↑(List.length x2.2.1.1) : Int) 9
 else
 K (↑(List.length x2.2.1.1) : Int) 0)
 else
 K (↑(List.length x2.2.1.1) : Int) 0)))
 else
 (if (!x2.2.1.2.1) then
 (if (x2.2.1.2.2.1 != 0) then
 K (↑(List.length x2.2.1.1) : Int) 9
 else
 K (↑(List.length x2.2.1.1) : Int) 0)
 else
 K (↑(List.length x2.2.1.1) : Int) 0)))
def Lepactref09_Check_0p : Lp := ⟨62, [.trim 62], pT103, pH52, 0⟩
def Yepactref09_Check (xepactref09_wrong : Tepactref09_wrong) (a0 : Q49) (K : Int → Int → Prop) : Prop :=
 lp (Lepactref09_Check_0 xepactref09_wrong K) (((), 0, 0, 63072000, 0, ()), a0, ())
def Xepactref09_Check : Tepactref09_Check := Yepactref09_Check Xepactref09_wrong
def Jepactref09_Check (X : Tepactref09_Check) : Inst := mkI 88 pL53 .nil pL24 .nil X
def Iepactref09_Check : Inst := Jepactref09_Check Xepactref09_Check
theorem Eepactref09_Check (xepactref09_wrong : Tepactref09_wrong) : EqF Tryz.prog 58 gives Tryz.f88 [Jepactref09_wrong xepactref09_wrong] [Lepactref09_Check_0p] (Jepactref09_Check (Yepactref09_Check xepactref09_wrong)) := fun x y K => by kernel_rfl
theorem Iepactref09_Check_ok : InstOk Tryz.prog G.1 Iepactref09_Check := iok (gives := gives) [Lepactref09_Check_0p] (okCons Iepactref09_wrong_ok okNil) 58 follows Tryz.func88 (by kernel_rfl) (fun x => by kernel_rfl) (Eepactref09_Check Xepactref09_wrong)

/- epact/epactref09.Add -/
abbrev Tepactref09_Add : Type := Q49 → Q47 → (Q54 → Int → (List Eng.V) → Bool → Bool → Prop) → Prop
def Yepactref09_Add (xepactref09_Copy : Tepactref09_Copy) (xepactref09_Check : Tepactref09_Check) (a0 : Q49) (a1 : Q47) (K : Q54 → Int → (List Eng.V) → Bool → Bool → Prop) : Prop :=
 xepactref09_Copy a0 (fun r2 r3 r4 r5 =>
 (if r4 then
 (if Eng.roomOk (List.length r3 + List.length [Eng.V.agg [Eng.V.c (Value.int IntKind.i64 a1.1), Eng.V.c (Value.int IntKind.i64 a1.2.1), Eng.V.c (Value.bool a1.2.2.1)]]) (24 : Nat) then
 (lt (r3 ++ [Eng.V.agg [Eng.V.c (Value.int IntKind.i64 a1.1), Eng.V.c (Value.int IntKind.i64 a1.2.1), Eng.V.c (Value.bool a1.2.2.1)]]) fun v6 =>
 xepactref09_Check (v6, r2.2) (fun r7 r8 =>
 (if (r8 != 0) then
 xepactref09_Copy a0 (fun r9 r10 r11 r12 =>
 K ((), r9.2) r8 r10 r11 r12)
 else
 K ((), r2.2) 0 v6 r4 r5)))
 else
 False)
 else
 False))
def Xepactref09_Add : Tepactref09_Add := Yepactref09_Add Xepactref09_Copy Xepactref09_Check
def Jepactref09_Add (X : Tepactref09_Add) : Inst := mkI 84 pL55 .nil pL56 pH45 X
def Iepactref09_Add : Inst := Jepactref09_Add Xepactref09_Add
theorem Eepactref09_Add (xepactref09_Copy : Tepactref09_Copy) (xepactref09_Check : Tepactref09_Check) : EqF Tryz.prog 28 gives Tryz.f84 [Jepactref09_Copy xepactref09_Copy, Jepactref09_Check xepactref09_Check] [] (Jepactref09_Add (Yepactref09_Add xepactref09_Copy xepactref09_Check)) := fun x y K => by kernel_rfl
theorem Iepactref09_Add_ok : InstOk Tryz.prog G.1 Iepactref09_Add := iok (gives := gives) [] (okCons Iepactref09_Copy_ok (okCons Iepactref09_Check_ok okNil)) 28 follows Tryz.func84 (by kernel_rfl) (fun x => by kernel_rfl) (Eepactref09_Add Xepactref09_Copy Xepactref09_Check)

/- epact/epactref11.add -/
abbrev Tepactref11_add : Type := Q49 → Q38 → (Q54 → Int → (List Eng.V) → Bool → Bool → Prop) → Prop
def Yepactref11_add (xepactref03_Number : Tepactref03_Number) (xepactref09_Add : Tepactref09_Add) (a0 : Q49) (a1 : Q38) (K : Q54 → Int → (List Eng.V) → Bool → Bool → Prop) : Prop :=
 xepactref03_Number a1.2.1 a1.2.2.1 a1.2.2.2.1 (fun r2 r3 =>
 (if (!r3) then
 K ((), a0.2) 9 a0.1 false true
 else
 (if (ByteArray.toList a1.2.2.2.2.2.1 == ByteArray.toList (ByteArray.mk #[(43 : UInt8)])) then
 (if (a1.2.2.2.2.1 == 86400) then
 xepactref09_Add a0 (r2, 1, a1.2.2.2.2.2.2) (fun r4 r5 r6 r7 r8 =>
 K ((), r4.2) r5 r6 r7 r8)
 else
 (if (ByteArray.toList a1.2.2.2.2.2.1 == ByteArray.toList (ByteArray.mk #[(45 : UInt8)])) then
 (if (a1.2.2.2.2.1 == 86399) then
 xepactref09_Add a0 (r2, (-1), a1.2.2.2.2.2.2) (fun r9 r10 r11 r12 r13 =>
 K ((), r9.2) r10 r11 r12 r13)
 else
 K ((), a0.2) 6 a0.1 false true)
 else
 K ((), a0.2) 6 a0.1 false true))
 else
 (if (ByteArray.toList a1.2.2.2.2.2.1 == ByteArray.toList (ByteArray.mk #[(45 : UInt8)])) then
 (if (a1.2.2.2.2.1 == 86399) then
 xepactref09_Add a0 (r2, (-1), a1.2.2.2.2.2.2) (fun r14 r15 r16 r17 r18 =>
 K ((), r14.2) r15 r16 r17 r18)
 else
 K ((), a0.2) 6 a0.1 false true)
 else
 K ((), a0.2) 6 a0.1 false true))))
def Xepactref11_add : Tepactref11_add := Yepactref11_add Xepactref03_Number Xepactref09_Add
def Jepactref11_add (X : Tepactref11_add) : Inst := mkI 31 pL104 .nil pL56 pH45 X
def Iepactref11_add : Inst := Jepactref11_add Xepactref11_add
theorem Eepactref11_add (xepactref03_Number : Tepactref03_Number) (xepactref09_Add : Tepactref09_Add) : EqF Tryz.prog 54 gives Tryz.f31 [Jepactref03_Number xepactref03_Number, Jepactref09_Add xepactref09_Add] [] (Jepactref11_add (Yepactref11_add xepactref03_Number xepactref09_Add)) := fun x y K => by kernel_rfl
theorem Iepactref11_add_ok : InstOk Tryz.prog G.1 Iepactref11_add := iok (gives := gives) [] (okCons Iepactref03_Number_ok (okCons Iepactref09_Add_ok okNil)) 54 follows Tryz.func31 (by kernel_rfl) (fun x => by kernel_rfl) (Eepactref11_add Xepactref03_Number Xepactref09_Add)

/- epact/epactref09.Right -/
abbrev Tepactref09_Right : Type := Q49 → (Bool → Prop) → Prop
def Yepactref09_Right (xepactref09_Check : Tepactref09_Check) (a0 : Q49) (K : Bool → Prop) : Prop :=
 xepactref09_Check a0 (fun r1 r2 =>
 K (r2 == 0))
def Xepactref09_Right : Tepactref09_Right := Yepactref09_Right Xepactref09_Check
def Jepactref09_Right (X : Tepactref09_Right) : Inst := mkI 33 pL53 .nil pL8 .nil X
def Iepactref09_Right : Inst := Jepactref09_Right Xepactref09_Right
theorem Eepactref09_Right (xepactref09_Check : Tepactref09_Check) : EqF Tryz.prog 12 gives Tryz.f33 [Jepactref09_Check xepactref09_Check] [] (Jepactref09_Right (Yepactref09_Right xepactref09_Check)) := fun x y K => by kernel_rfl
theorem Iepactref09_Right_ok : InstOk Tryz.prog G.1 Iepactref09_Right := iok (gives := gives) [] (okCons Iepactref09_Check_ok okNil) 12 follows Tryz.func33 (by kernel_rfl) (fun x => by kernel_rfl) (Eepactref09_Right Xepactref09_Check)

/- epact/epactref11.Parse -/
abbrev Tepactref11_Parse : Type := ByteArray → (Q54 → Q61 → (List Eng.V) → Bool → Bool → Prop) → Prop
def Lepactref11_Parse_0 (xepactref11_read : Tepactref11_read) (xepactref11_add : Tepactref11_add) (xepactref03_Number : Tepactref03_Number) (xepactref09_Right : Tepactref09_Right) (K : Q54 → Q61 → (List Eng.V) → Bool → Bool → Prop) : (Q105 → Prop) → Q105 → Prop := fun k4 x5 =>
 (if decide (x5.1.2.2.2.2.2.2.1 < (↑(List.length x5.2.2.2.2.1.1) : Int)) then
 (if 0 ≤ x5.1.2.2.2.2.2.2.1 ∧ x5.1.2.2.2.2.2.2.1 < (↑(List.length x5.2.2.2.2.1.1) : Int) then
 (Eng.asStr (Eng.getC x5.2.2.2.2.1.1 (Int.toNat x5.1.2.2.2.2.2.2.1) (0 : Nat)) False fun t6 =>
 xepactref11_read t6 (fun r7 =>
 (if (r7.1 == 1) then
 xepactref11_add x5.2.2.2.1 r7 (fun r8 r9 r10 r11 r12 =>
 (if (r7.1 == 2) then
 xepactref03_Number r7.2.1 r7.2.2.1 r7.2.2.2.1 (fun r13 r14 =>
 (if (!r14) then
 (if decide (x5.1.2.2.2.2.1 > 0) then
 (lt (w64 (w64 (86400 * r13) + r7.2.2.2.2.1)) fun v15 =>
 (if (r7.1 == 3) then
 K ((), false, 0, ()) (w64 (x5.1.2.2.2.2.2.2.1 + 1), 2, ()) [] true true
 else
 K ((), false, 0, ()) (w64 (x5.1.2.2.2.2.2.2.1 + 1), 2, ()) [] true true))
 else
 (lt (w64 (w64 (86400 * r13) + r7.2.2.2.2.1)) fun v16 =>
 (if (r7.1 == 3) then
 K ((), false, 0, ()) (w64 (x5.1.2.2.2.2.2.2.1 + 1), 2, ()) [] true true
 else
 K ((), false, 0, ()) (w64 (x5.1.2.2.2.2.2.2.1 + 1), 9, ()) [] true true)))
 else
 (if (r7.2.2.2.2.1 == 86400) then
 (if decide (x5.1.2.2.2.2.1 > 0) then
 (lt (w64 (w64 (86400 * r13) + r7.2.2.2.2.1)) fun v17 =>
 (if (r7.1 == 3) then
 K ((), false, 0, ()) (w64 (x5.1.2.2.2.2.2.2.1 + 1), 2, ()) [] true true
 else
 K ((), false, 0, ()) (w64 (x5.1.2.2.2.2.2.2.1 + 1), 2, ()) [] true true))
 else
 (lt (w64 (w64 (86400 * r13) + r7.2.2.2.2.1)) fun v18 =>
 (if (r7.1 == 3) then
 K ((), false, 0, ()) (w64 (x5.1.2.2.2.2.2.2.1 + 1), 2, ()) [] true true
 else
 K ((), false, 0, ()) (w64 (x5.1.2.2.2.2.2.2.1 + 1), 9, ()) [] true true)))
 else
 (if decide (x5.1.2.2.2.2.1 > 0) then
 (lt (w64 (w64 (86400 * r13) + r7.2.2.2.2.1)) fun v19 =>
 (if (r7.1 == 3) then
 K ((), false, 0, ()) (w64 (x5.1.2.2.2.2.2.2.1 + 1), 2, ()) [] true true
 else
 K ((), false, 0, ()) (w64 (x5.1.2.2.2.2.2.2.1 + 1), 2, ()) [] true true))
 else
 (lt (w64 (w64 (86400 * r13) + r7.2.2.2.2.1)) fun v20 =>
 (if (r7.1 == 3) then
 K ((), false, 0, ()) (w64 (x5.1.2.2.2.2.2.2.1 + 1), 2, ()) [] true true
 else
 (if (r9 != 0) then
 K ((), false, 0, ()) (w64 (x5.1.2.2.2.2.2.2.1 + 1), r9, ()) [] true true
 else
 k4 (((), (), (), (), w64 (x5.1.2.2.2.2.2.2.1 + 1), v20, w64 (x5.1.2.2.2.2.2.2.1 + 1), ()), x5.2.1, x5.2.2.1, (r10, r8.2), x5.2.2.2.2))))))))
 else
 (if (r7.1 == 3) then
 K ((), false, 0, ()) (w64 (x5.1.2.2.2.2.2.2.1 + 1), 2, ()) [] true true
 else
 (if (r9 != 0) then
 K ((), false, 0, ()) (w64 (x5.1.2.2.2.2.2.2.1 + 1), r9, ()) [] true true
 else
 k4 (((), (), (), (), x5.1.2.2.2.2.1, x5.1.2.2.2.2.2.1, w64 (x5.1.2.2.2.2.2.2.1 + 1), ()), x5.2.1, x5.2.2.1, (r10, r8.2), x5.2.2.2.2)))))
 else
 (if (r7.1 == 2) then
 xepactref03_Number r7.2.1 r7.2.2.1 r7.2.2.2.1 (fun r21 r22 =>
 (if (!r22) then
 (if decide (x5.1.2.2.2.2.1 > 0) then
 (lt (w64 (w64 (86400 * r21) + r7.2.2.2.2.1)) fun v23 =>
 (if (r7.1 == 3) then
 K ((), false, 0, ()) (w64 (x5.1.2.2.2.2.2.2.1 + 1), 2, ()) [] true true
 else
 K ((), false, 0, ()) (w64 (x5.1.2.2.2.2.2.2.1 + 1), 2, ()) [] true true))
 else
 (lt (w64 (w64 (86400 * r21) + r7.2.2.2.2.1)) fun v24 =>
 (if (r7.1 == 3) then
 K ((), false, 0, ()) (w64 (x5.1.2.2.2.2.2.2.1 + 1), 2, ()) [] true true
 else
 K ((), false, 0, ()) (w64 (x5.1.2.2.2.2.2.2.1 + 1), 9, ()) [] true true)))
 else
 (if (r7.2.2.2.2.1 == 86400) then
 (if decide (x5.1.2.2.2.2.1 > 0) then
 (lt (w64 (w64 (86400 * r21) + r7.2.2.2.2.1)) fun v25 =>
 (if (r7.1 == 3) then
 K ((), false, 0, ()) (w64 (x5.1.2.2.2.2.2.2.1 + 1), 2, ()) [] true true
 else
 K ((), false, 0, ()) (w64 (x5.1.2.2.2.2.2.2.1 + 1), 2, ()) [] true true))
 else
 (lt (w64 (w64 (86400 * r21) + r7.2.2.2.2.1)) fun v26 =>
 (if (r7.1 == 3) then
 K ((), false, 0, ()) (w64 (x5.1.2.2.2.2.2.2.1 + 1), 2, ()) [] true true
 else
 K ((), false, 0, ()) (w64 (x5.1.2.2.2.2.2.2.1 + 1), 9, ()) [] true true)))
 else
 (if decide (x5.1.2.2.2.2.1 > 0) then
 (lt (w64 (w64 (86400 * r21) + r7.2.2.2.2.1)) fun v27 =>
 (if (r7.1 == 3) then
 K ((), false, 0, ()) (w64 (x5.1.2.2.2.2.2.2.1 + 1), 2, ()) [] true true
 else
 K ((), false, 0, ()) (w64 (x5.1.2.2.2.2.2.2.1 + 1), 2, ()) [] true true))
 else
 (lt (w64 (w64 (86400 * r21) + r7.2.2.2.2.1)) fun v28 =>
 (if (r7.1 == 3) then
 K ((), false, 0, ()) (w64 (x5.1.2.2.2.2.2.2.1 + 1), 2, ()) [] true true
 else
 k4 (((), (), (), (), w64 (x5.1.2.2.2.2.2.2.1 + 1), v28, w64 (x5.1.2.2.2.2.2.2.1 + 1), ()), x5.2)))))))
 else
 (if (r7.1 == 3) then
 K ((), false, 0, ()) (w64 (x5.1.2.2.2.2.2.2.1 + 1), 2, ()) [] true true
 else
 k4 (((), (), (), (), x5.1.2.2.2.2.1, x5.1.2.2.2.2.2.1, w64 (x5.1.2.2.2.2.2.2.1 + 1), ()), x5.2))))))
 else
 False)
 else
 (if decide (x5.1.2.2.2.2.1 > 0) then
 xepactref09_Right (x5.2.2.2.1.1, true, x5.1.2.2.2.2.2.1, ()) (fun r29 =>
 (if (!r29) then
 K ((), false, 0, ()) (x5.1.2.2.2.2.1, 9, ()) [] true true
 else
 K ((), true, x5.1.2.2.2.2.2.1, ()) (0, 0, ()) x5.2.2.2.1.1 false true))
 else
 K ((), x5.2.2.2.1.2) (0, 0, ()) x5.2.2.2.1.1 false true))
def Lepactref11_Parse_0p : Lp := ⟨508, [.trim 508, .thin 576, .trim 508], pT106, pH107, 0⟩
def Yepactref11_Parse (xepactref05_Split : Tepactref05_Split) (xepactref11_read : Tepactref11_read) (xepactref11_add : Tepactref11_add) (xepactref03_Number : Tepactref03_Number) (xepactref09_Right : Tepactref09_Right) (a0 : ByteArray) (K : Q54 → Q61 → (List Eng.V) → Bool → Bool → Prop) : Prop :=
 xepactref05_Split a0 (fun r1 r2 r3 =>
 lp (Lepactref11_Parse_0 xepactref11_read xepactref11_add xepactref03_Number xepactref09_Right K) (((), (), (), (), 0, 0, 0, ()), ([], false, 0, ()), (0, 0, ()), ([], false, 0, ()), (r1, r2, r3), ()))
def Xepactref11_Parse : Tepactref11_Parse := Yepactref11_Parse Xepactref05_Split Xepactref11_read Xepactref11_add Xepactref03_Number Xepactref09_Right
def Jepactref11_Parse (X : Tepactref11_Parse) : Inst := mkI 9 pL9 .nil pL65 pH45 X
def Iepactref11_Parse : Inst := Jepactref11_Parse Xepactref11_Parse
theorem Eepactref11_Parse (xepactref05_Split : Tepactref05_Split) (xepactref11_read : Tepactref11_read) (xepactref11_add : Tepactref11_add) (xepactref03_Number : Tepactref03_Number) (xepactref09_Right : Tepactref09_Right) : EqF Tryz.prog 87 gives Tryz.f9 [Jepactref05_Split xepactref05_Split, Jepactref11_read xepactref11_read, Jepactref11_add xepactref11_add, Jepactref03_Number xepactref03_Number, Jepactref09_Right xepactref09_Right] [Lepactref11_Parse_0p] (Jepactref11_Parse (Yepactref11_Parse xepactref05_Split xepactref11_read xepactref11_add xepactref03_Number xepactref09_Right)) := fun x y K => by kernel_rfl
theorem Iepactref11_Parse_ok : InstOk Tryz.prog G.1 Iepactref11_Parse := iok (gives := gives) [Lepactref11_Parse_0p] (okCons Iepactref05_Split_ok (okCons Iepactref11_read_ok (okCons Iepactref11_add_ok (okCons Iepactref03_Number_ok (okCons Iepactref09_Right_ok okNil))))) 87 follows Tryz.func9 (by kernel_rfl) (fun x => by kernel_rfl) (Eepactref11_Parse Xepactref05_Split Xepactref11_read Xepactref11_add Xepactref03_Number Xepactref09_Right)

/- epact/epactref11.decimals -/
abbrev Tepactref11_decimals : Type := Int → (ByteArray → Prop) → Prop
def Yepactref11_decimals (xepactref11_decimals : Tepactref11_decimals) (a0 : Int) (K : ByteArray → Prop) : Prop :=
 (lt (wu8 (w64 (48 + Int.tmod a0 10))) fun v1 =>
 (if decide (a0 < 10) then
 K (Eng.packB [Eng.V.c (Value.int IntKind.u8 v1)])
 else
 xepactref11_decimals (w64 (Int.tdiv a0 10)) (fun r2 =>
 (if (↑(ByteArray.size r2 + ByteArray.size (Eng.packB [Eng.V.c (Value.int IntKind.u8 v1)])) : Int) > 9223372036854775807 then
 False
 else
 (lt (r2 ++ Eng.packB [Eng.V.c (Value.int IntKind.u8 v1)]) fun v3 =>
 K v3)))))
def Xepactref11_decimalsn : Nat → Tepactref11_decimals
 | 0 => fun a0 K => False
 | n + 1 => Yepactref11_decimals (Xepactref11_decimalsn n)
def Xepactref11_decimals (a0 : Int) (K : ByteArray → Prop) : Prop := ∃ n, Xepactref11_decimalsn n a0 K
def Jepactref11_decimals (X : Tepactref11_decimals) : Inst := mkI 94 pL1 .nil pL9 .nil X
def Iepactref11_decimals : Inst := Jepactref11_decimals Xepactref11_decimals
theorem Eepactref11_decimals (xepactref11_decimals : Tepactref11_decimals) : EqF Tryz.prog 18 gives Tryz.f94 [Jepactref11_decimals xepactref11_decimals] [] (Jepactref11_decimals (Yepactref11_decimals xepactref11_decimals)) := fun x y K => by kernel_rfl
theorem Iepactref11_decimals_okn : ∀ n, InstOk Tryz.prog G.1 (Jepactref11_decimals (Xepactref11_decimalsn n))
 | 0 => fun x y K h => False.elim h
 | n + 1 => iok (gives := gives) [] (okCons (Iepactref11_decimals_okn n) okNil) 18 follows Tryz.func94 (by kernel_rfl) (fun x => by kernel_rfl) (Eepactref11_decimals (Xepactref11_decimalsn n))
theorem Iepactref11_decimals_ok : InstOk Tryz.prog G.1 Iepactref11_decimals := fun x y K h => Exists.elim (show ∃ n, (Jepactref11_decimals (Xepactref11_decimalsn n)).X x y K from h) fun n h => Iepactref11_decimals_okn n x y K h

/- epact/epactref11.date -/
abbrev Tepactref11_date : Type := Int → (ByteArray → Prop) → Prop
def Yepactref11_date (xepactref03_Date : Tepactref03_Date) (xepactref11_months : Tepactref11_months) (xepactref11_decimals : Tepactref11_decimals) (a0 : Int) (K : ByteArray → Prop) : Prop :=
 xepactref03_Date a0 (fun r1 r2 r3 r4 =>
 xepactref11_months (fun r5 r6 r7 =>
 (if 0 ≤ w64 (r2 - 1) ∧ w64 (r2 - 1) < (↑(List.length r5) : Int) then
 (Eng.asStr (Eng.getC r5 (Int.toNat (w64 (r2 - 1))) (0 : Nat)) False fun t8 =>
 (if (0 :Int) ≤ 0 ∧ 0 < (↑(ByteArray.size t8) : Int) then
 (lt (Eng.packB [Eng.V.c (Value.int IntKind.u8 (wu8 (Eng.bAt t8 (0 : Nat) - 32)))]) fun v9 =>
 (if (0 :Int) ≤ 3 ∧ 3 ≤ (↑(ByteArray.size t8) : Int) then
 xepactref11_decimals r1 (fun r10 =>
 (if (↑((1 : Nat) + ByteArray.size r10) : Int) > 9223372036854775807 then
 False
 else
 (if (↑(ByteArray.size (ByteArray.mk #[(9 : UInt8)] ++ r10) + (1 : Nat)) : Int) > 9223372036854775807 then
 False
 else
 (lt (ByteArray.mk #[(9 : UInt8)] ++ r10 ++ ByteArray.mk #[(9 : UInt8)]) fun v11 =>
 (if (↑(ByteArray.size v11 + ByteArray.size v9) : Int) > 9223372036854775807 then
 False
 else
 (if (↑(ByteArray.size (v11 ++ v9) + ByteArray.size (ByteArray.extract t8 (1 : Nat) (3 : Nat))) : Int) > 9223372036854775807 then
 False
 else
 (lt (v11 ++ v9 ++ ByteArray.extract t8 (1 : Nat) (3 : Nat)) fun v12 =>
 (if (↑(ByteArray.size v12 + (1 : Nat)) : Int) > 9223372036854775807 then
 False
 else
 xepactref11_decimals r3 (fun r13 =>
 (if (↑(ByteArray.size (v12 ++ ByteArray.mk #[(9 : UInt8)]) + ByteArray.size r13) : Int) > 9223372036854775807 then
 False
 else
 (lt (v12 ++ ByteArray.mk #[(9 : UInt8)] ++ r13) fun v14 =>
 (if (↑(ByteArray.size v14 + (1 : Nat)) : Int) > 9223372036854775807 then
 False
 else
 K (v14 ++ ByteArray.mk #[(9 : UInt8)])))))))))))))
 else
 False))
 else
 False))
 else
 False)))
def Xepactref11_date : Tepactref11_date := Yepactref11_date Xepactref03_Date Xepactref11_months Xepactref11_decimals
def Jepactref11_date (X : Tepactref11_date) : Inst := mkI 36 pL1 .nil pL9 .nil X
def Iepactref11_date : Inst := Jepactref11_date Xepactref11_date
theorem Eepactref11_date (xepactref03_Date : Tepactref03_Date) (xepactref11_months : Tepactref11_months) (xepactref11_decimals : Tepactref11_decimals) : EqF Tryz.prog 40 gives Tryz.f36 [Jepactref03_Date xepactref03_Date, Jepactref11_months xepactref11_months, Jepactref11_decimals xepactref11_decimals] [] (Jepactref11_date (Yepactref11_date xepactref03_Date xepactref11_months xepactref11_decimals)) := fun x y K => by kernel_rfl
theorem Iepactref11_date_ok : InstOk Tryz.prog G.1 Iepactref11_date := iok (gives := gives) [] (okCons Iepactref03_Date_ok (okCons Iepactref11_months_ok (okCons Iepactref11_decimals_ok okNil))) 40 follows Tryz.func36 (by kernel_rfl) (fun x => by kernel_rfl) (Eepactref11_date Xepactref03_Date Xepactref11_months Xepactref11_decimals)

/- epact/epactref01.Div -/
abbrev Tepactref01_Div : Type := Int → Int → (Int → Int → Bool → Prop) → Prop
def Yepactref01_Div (a0 : Int) (a1 : Int) (K : Int → Int → Bool → Prop) : Prop :=
 (if decide (a1 < 1) then
 K 0 0 false
 else
 (if a1 = 0 then
 False
 else
 (if a1 = 0 then
 False
 else
 (if decide (Int.tmod a0 a1 < 0) then
 (lt (w64 (w64 (Int.tdiv a0 a1) - 1)) fun v2 =>
 K v2 (w64 (Int.tmod a0 a1 + a1)) true)
 else
 K (w64 (Int.tdiv a0 a1)) (Int.tmod a0 a1) true))))
def Xepactref01_Div : Tepactref01_Div := Yepactref01_Div
def Jepactref01_Div (X : Tepactref01_Div) : Inst := mkI 37 pL24 .nil pL43 .nil X
def Iepactref01_Div : Inst := Jepactref01_Div Xepactref01_Div
theorem Eepactref01_Div : EqF Tryz.prog 26 gives Tryz.f37 [] [] (Jepactref01_Div (Yepactref01_Div)) := fun x y K => by kernel_rfl
theorem Iepactref01_Div_ok : InstOk Tryz.prog G.1 Iepactref01_Div := iok (gives := gives) [] okNil 26 follows Tryz.func37 (by kernel_rfl) (fun x => by kernel_rfl) (Eepactref01_Div)

/- epact/epactref04.digits -/
abbrev Tepactref04_digits : Type := Int → Int → (ByteArray → Prop) → Prop
def Lepactref04_digits_0 (K : ByteArray → Prop) : (Q108 → Prop) → Q108 → Prop := fun k2 x3 =>
 (if decide (x3.1.2.2.2.2.1 < x3.1.2.1) then
 (lt (wu8 (w64 (48 + Int.tmod x3.1.1 10))) fun v4 =>
 (if (↑(ByteArray.size (Eng.packB [Eng.V.c (Value.int IntKind.u8 v4)]) + ByteArray.size x3.1.2.2.2.1) : Int) > 9223372036854775807 then
 False
 else
 (lt (Eng.packB [Eng.V.c (Value.int IntKind.u8 v4)] ++ x3.1.2.2.2.1) fun v5 =>
 k2 ((w64 (Int.tdiv x3.1.1 10), x3.1.2.1, x3.1.2.2.1, v5, w64 (x3.1.2.2.2.2.1 + 1), ()), ()))))
 else
 K x3.1.2.2.2.1)
def Lepactref04_digits_0p : Lp := ⟨115, [.trim 115], pT109, .nil, 0⟩
def Yepactref04_digits (a0 : Int) (a1 : Int) (K : ByteArray → Prop) : Prop :=
 lp (Lepactref04_digits_0 K) ((a0, a1, ByteArray.mk #[], ByteArray.mk #[], 0, ()), ())
def Xepactref04_digits : Tepactref04_digits := Yepactref04_digits
def Jepactref04_digits (X : Tepactref04_digits) : Inst := mkI 97 pL24 .nil pL9 .nil X
def Iepactref04_digits : Inst := Jepactref04_digits Xepactref04_digits
theorem Eepactref04_digits : EqF Tryz.prog 23 gives Tryz.f97 [] [Lepactref04_digits_0p] (Jepactref04_digits (Yepactref04_digits)) := fun x y K => by kernel_rfl
theorem Iepactref04_digits_ok : InstOk Tryz.prog G.1 Iepactref04_digits := iok (gives := gives) [Lepactref04_digits_0p] okNil 23 follows Tryz.func97 (by kernel_rfl) (fun x => by kernel_rfl) (Eepactref04_digits)

/- epact/epactref04.Day -/
abbrev Tepactref04_Day : Type := Int → (ByteArray → Bool → Prop) → Prop
def Yepactref04_Day (xepactref03_Date : Tepactref03_Date) (xepactref04_digits : Tepactref04_digits) (a0 : Int) (K : ByteArray → Bool → Prop) : Prop :=
 xepactref03_Date a0 (fun r1 r2 r3 r4 =>
 (if (!r4) then
 K (ByteArray.mk #[]) false
 else
 xepactref04_digits r1 4 (fun r5 =>
 (if (↑(ByteArray.size r5 + (1 : Nat)) : Int) > 9223372036854775807 then
 False
 else
 xepactref04_digits r2 2 (fun r6 =>
 (if (↑(ByteArray.size (r5 ++ ByteArray.mk #[(45 : UInt8)]) + ByteArray.size r6) : Int) > 9223372036854775807 then
 False
 else
 (lt (r5 ++ ByteArray.mk #[(45 : UInt8)] ++ r6) fun v7 =>
 (if (↑(ByteArray.size v7 + (1 : Nat)) : Int) > 9223372036854775807 then
 False
 else
 xepactref04_digits r3 2 (fun r8 =>
 (if (↑(ByteArray.size (v7 ++ ByteArray.mk #[(45 : UInt8)]) + ByteArray.size r8) : Int) > 9223372036854775807 then
 False
 else
 (lt (v7 ++ ByteArray.mk #[(45 : UInt8)] ++ r8) fun v9 =>
 K v9 true)))))))))))
def Xepactref04_Day : Tepactref04_Day := Yepactref04_Day Xepactref03_Date Xepactref04_digits
def Jepactref04_Day (X : Tepactref04_Day) : Inst := mkI 95 pL1 .nil pL71 .nil X
def Iepactref04_Day : Inst := Jepactref04_Day Xepactref04_Day
theorem Eepactref04_Day (xepactref03_Date : Tepactref03_Date) (xepactref04_digits : Tepactref04_digits) : EqF Tryz.prog 27 gives Tryz.f95 [Jepactref03_Date xepactref03_Date, Jepactref04_digits xepactref04_digits] [] (Jepactref04_Day (Yepactref04_Day xepactref03_Date xepactref04_digits)) := fun x y K => by kernel_rfl
theorem Iepactref04_Day_ok : InstOk Tryz.prog G.1 Iepactref04_Day := iok (gives := gives) [] (okCons Iepactref03_Date_ok (okCons Iepactref04_digits_ok okNil)) 27 follows Tryz.func95 (by kernel_rfl) (fun x => by kernel_rfl) (Eepactref04_Day Xepactref03_Date Xepactref04_digits)

/- epact/epactref04.Clock -/
abbrev Tepactref04_Clock : Type := Int → (Int → Int → Int → Bool → Prop) → Prop
def Yepactref04_Clock (a0 : Int) (K : Int → Int → Int → Bool → Prop) : Prop :=
 (if decide (a0 < 0) then
 K 0 0 0 false
 else
 (if decide (a0 > 86400) then
 K 0 0 0 false
 else
 (if (a0 == 86400) then
 K 23 59 60 true
 else
 K (w64 (Int.tdiv a0 3600)) (Int.tmod (w64 (Int.tdiv a0 60)) 60) (Int.tmod a0 60) true)))
def Xepactref04_Clock : Tepactref04_Clock := Yepactref04_Clock
def Jepactref04_Clock (X : Tepactref04_Clock) : Inst := mkI 96 pL1 .nil pL46 .nil X
def Iepactref04_Clock : Inst := Jepactref04_Clock Xepactref04_Clock
theorem Eepactref04_Clock : EqF Tryz.prog 21 gives Tryz.f96 [] [] (Jepactref04_Clock (Yepactref04_Clock)) := fun x y K => by kernel_rfl
theorem Iepactref04_Clock_ok : InstOk Tryz.prog G.1 Iepactref04_Clock := iok (gives := gives) [] okNil 21 follows Tryz.func96 (by kernel_rfl) (fun x => by kernel_rfl) (Eepactref04_Clock)

/- epact/epactref04.Text -/
abbrev Tepactref04_Text : Type := Int → Int → (ByteArray → Bool → Prop) → Prop
def Yepactref04_Text (xepactref04_Day : Tepactref04_Day) (xepactref04_Clock : Tepactref04_Clock) (xepactref04_digits : Tepactref04_digits) (a0 : Int) (a1 : Int) (K : ByteArray → Bool → Prop) : Prop :=
 xepactref04_Day a0 (fun r2 r3 =>
 xepactref04_Clock a1 (fun r4 r5 r6 r7 =>
 (if (!r3) then
 K (ByteArray.mk #[]) false
 else
 (if (!r7) then
 K (ByteArray.mk #[]) false
 else
 (if (↑(ByteArray.size r2 + (1 : Nat)) : Int) > 9223372036854775807 then
 False
 else
 xepactref04_digits r4 2 (fun r8 =>
 (if (↑(ByteArray.size (r2 ++ ByteArray.mk #[(84 : UInt8)]) + ByteArray.size r8) : Int) > 9223372036854775807 then
 False
 else
 (lt (r2 ++ ByteArray.mk #[(84 : UInt8)] ++ r8) fun v9 =>
 (if (↑(ByteArray.size v9 + (1 : Nat)) : Int) > 9223372036854775807 then
 False
 else
 xepactref04_digits r5 2 (fun r10 =>
 (if (↑(ByteArray.size (v9 ++ ByteArray.mk #[(58 : UInt8)]) + ByteArray.size r10) : Int) > 9223372036854775807 then
 False
 else
 (lt (v9 ++ ByteArray.mk #[(58 : UInt8)] ++ r10) fun v11 =>
 (if (↑(ByteArray.size v11 + (1 : Nat)) : Int) > 9223372036854775807 then
 False
 else
 xepactref04_digits r6 2 (fun r12 =>
 (if (↑(ByteArray.size (v11 ++ ByteArray.mk #[(58 : UInt8)]) + ByteArray.size r12) : Int) > 9223372036854775807 then
 False
 else
 (lt (v11 ++ ByteArray.mk #[(58 : UInt8)] ++ r12) fun v13 =>
 (if (↑(ByteArray.size v13 + (1 : Nat)) : Int) > 9223372036854775807 then
 False
 else
 K (v13 ++ ByteArray.mk #[(90 : UInt8)]) true)))))))))))))))))
def Xepactref04_Text : Tepactref04_Text := Yepactref04_Text Xepactref04_Day Xepactref04_Clock Xepactref04_digits
def Jepactref04_Text (X : Tepactref04_Text) : Inst := mkI 38 pL24 .nil pL71 .nil X
def Iepactref04_Text : Inst := Jepactref04_Text Xepactref04_Text
theorem Eepactref04_Text (xepactref04_Day : Tepactref04_Day) (xepactref04_Clock : Tepactref04_Clock) (xepactref04_digits : Tepactref04_digits) : EqF Tryz.prog 44 gives Tryz.f38 [Jepactref04_Day xepactref04_Day, Jepactref04_Clock xepactref04_Clock, Jepactref04_digits xepactref04_digits] [] (Jepactref04_Text (Yepactref04_Text xepactref04_Day xepactref04_Clock xepactref04_digits)) := fun x y K => by kernel_rfl
theorem Iepactref04_Text_ok : InstOk Tryz.prog G.1 Iepactref04_Text := iok (gives := gives) [] (okCons Iepactref04_Day_ok (okCons Iepactref04_Clock_ok (okCons Iepactref04_digits_ok okNil))) 44 follows Tryz.func38 (by kernel_rfl) (fun x => by kernel_rfl) (Eepactref04_Text Xepactref04_Day Xepactref04_Clock Xepactref04_digits)

/- epact/epactref11.Text -/
abbrev Tepactref11_Text : Type := Q49 → (ByteArray → Bool → Prop) → Prop
def Lepactref11_Text_0 (xepactref11_date : Tepactref11_date) (xepactref01_Div : Tepactref01_Div) (xepactref04_Text : Tepactref04_Text) (K : ByteArray → Bool → Prop) : (Q110 → Prop) → Q110 → Prop := fun k2 x3 =>
 (if decide (x3.1.2.2.2.2.1 < (↑(List.length x3.2.1.1) : Int)) then
 (if 0 ≤ x3.1.2.2.2.2.1 ∧ x3.1.2.2.2.2.1 < (↑(List.length x3.2.1.1) : Int) then
 (Eng.asInt IntKind.i64 (Eng.getC x3.2.1.1 (Int.toNat x3.1.2.2.2.2.1) (0 : Nat)) False fun n4 =>
 (Eng.asInt IntKind.i64 (Eng.getC x3.2.1.1 (Int.toNat x3.1.2.2.2.2.1) (1 : Nat)) False fun n5 =>
 (Eng.asBool (Eng.getC x3.2.1.1 (Int.toNat x3.1.2.2.2.2.1) (2 : Nat)) False fun b6 =>
 (if decide (n5 < 0) then
 (if b6 then
 (if (↑(ByteArray.size x3.1.2.2.2.1 + (4 : Nat)) : Int) > 9223372036854775807 then
 False
 else
 (lt (x3.1.2.2.2.1 ++ ByteArray.mk #[(76 : UInt8), (101 : UInt8), (97 : UInt8), (112 : UInt8)]) fun v7 =>
 xepactref11_date n4 (fun r8 =>
 (if (↑(ByteArray.size v7 + ByteArray.size r8) : Int) > 9223372036854775807 then
 False
 else
 (if (↑(ByteArray.size (v7 ++ r8) + (10 : Nat)) : Int) > 9223372036854775807 then
 False
 else
 (lt (v7 ++ r8 ++ ByteArray.mk #[(50 : UInt8), (51 : UInt8), (58 : UInt8), (53 : UInt8), (57 : UInt8), (58 : UInt8), (53 : UInt8), (57 : UInt8), (9 : UInt8), (45 : UInt8)]) fun v9 =>
 (if (↑(ByteArray.size v9 + (1 : Nat)) : Int) > 9223372036854775807 then
 False
 else
 (if (↑(ByteArray.size (v9 ++ ByteArray.mk #[(9 : UInt8)]) + (1 : Nat)) : Int) > 9223372036854775807 then
 False
 else
 (lt (v9 ++ ByteArray.mk #[(9 : UInt8)] ++ ByteArray.mk #[(82 : UInt8)]) fun v10 =>
 (if (↑(ByteArray.size v10 + (1 : Nat)) : Int) > 9223372036854775807 then
 False
 else
 k2 (((), x3.1.2.1, x3.1.2.2.1, v10 ++ ByteArray.mk #[(10 : UInt8)], w64 (x3.1.2.2.2.2.1 + 1), ()), x3.2)))))))))))
 else
 (if (↑(ByteArray.size x3.1.2.2.2.1 + (4 : Nat)) : Int) > 9223372036854775807 then
 False
 else
 (lt (x3.1.2.2.2.1 ++ ByteArray.mk #[(76 : UInt8), (101 : UInt8), (97 : UInt8), (112 : UInt8)]) fun v11 =>
 xepactref11_date n4 (fun r12 =>
 (if (↑(ByteArray.size v11 + ByteArray.size r12) : Int) > 9223372036854775807 then
 False
 else
 (if (↑(ByteArray.size (v11 ++ r12) + (10 : Nat)) : Int) > 9223372036854775807 then
 False
 else
 (lt (v11 ++ r12 ++ ByteArray.mk #[(50 : UInt8), (51 : UInt8), (58 : UInt8), (53 : UInt8), (57 : UInt8), (58 : UInt8), (53 : UInt8), (57 : UInt8), (9 : UInt8), (45 : UInt8)]) fun v13 =>
 (if (↑(ByteArray.size v13 + (1 : Nat)) : Int) > 9223372036854775807 then
 False
 else
 (if (↑(ByteArray.size (v13 ++ ByteArray.mk #[(9 : UInt8)]) + (1 : Nat)) : Int) > 9223372036854775807 then
 False
 else
 (lt (v13 ++ ByteArray.mk #[(9 : UInt8)] ++ ByteArray.mk #[(83 : UInt8)]) fun v14 =>
 (if (↑(ByteArray.size v14 + (1 : Nat)) : Int) > 9223372036854775807 then
 False
 else
 k2 (((), x3.1.2.1, x3.1.2.2.1, v14 ++ ByteArray.mk #[(10 : UInt8)], w64 (x3.1.2.2.2.2.1 + 1), ()), x3.2))))))))))))
 else
 (if b6 then
 (if (↑(ByteArray.size x3.1.2.2.2.1 + (4 : Nat)) : Int) > 9223372036854775807 then
 False
 else
 (lt (x3.1.2.2.2.1 ++ ByteArray.mk #[(76 : UInt8), (101 : UInt8), (97 : UInt8), (112 : UInt8)]) fun v15 =>
 xepactref11_date n4 (fun r16 =>
 (if (↑(ByteArray.size v15 + ByteArray.size r16) : Int) > 9223372036854775807 then
 False
 else
 (if (↑(ByteArray.size (v15 ++ r16) + (10 : Nat)) : Int) > 9223372036854775807 then
 False
 else
 (lt (v15 ++ r16 ++ ByteArray.mk #[(50 : UInt8), (51 : UInt8), (58 : UInt8), (53 : UInt8), (57 : UInt8), (58 : UInt8), (54 : UInt8), (48 : UInt8), (9 : UInt8), (43 : UInt8)]) fun v17 =>
 (if (↑(ByteArray.size v17 + (1 : Nat)) : Int) > 9223372036854775807 then
 False
 else
 (if (↑(ByteArray.size (v17 ++ ByteArray.mk #[(9 : UInt8)]) + (1 : Nat)) : Int) > 9223372036854775807 then
 False
 else
 (lt (v17 ++ ByteArray.mk #[(9 : UInt8)] ++ ByteArray.mk #[(82 : UInt8)]) fun v18 =>
 (if (↑(ByteArray.size v18 + (1 : Nat)) : Int) > 9223372036854775807 then
 False
 else
 k2 (((), x3.1.2.1, x3.1.2.2.1, v18 ++ ByteArray.mk #[(10 : UInt8)], w64 (x3.1.2.2.2.2.1 + 1), ()), x3.2)))))))))))
 else
 (if (↑(ByteArray.size x3.1.2.2.2.1 + (4 : Nat)) : Int) > 9223372036854775807 then
 False
 else
 (lt (x3.1.2.2.2.1 ++ ByteArray.mk #[(76 : UInt8), (101 : UInt8), (97 : UInt8), (112 : UInt8)]) fun v19 =>
 xepactref11_date n4 (fun r20 =>
 (if (↑(ByteArray.size v19 + ByteArray.size r20) : Int) > 9223372036854775807 then
 False
 else
 (if (↑(ByteArray.size (v19 ++ r20) + (10 : Nat)) : Int) > 9223372036854775807 then
 False
 else
 (lt (v19 ++ r20 ++ ByteArray.mk #[(50 : UInt8), (51 : UInt8), (58 : UInt8), (53 : UInt8), (57 : UInt8), (58 : UInt8), (54 : UInt8), (48 : UInt8), (9 : UInt8), (43 : UInt8)]) fun v21 =>
 (if (↑(ByteArray.size v21 + (1 : Nat)) : Int) > 9223372036854775807 then
 False
 else
 (if (↑(ByteArray.size (v21 ++ ByteArray.mk #[(9 : UInt8)]) + (1 : Nat)) : Int) > 9223372036854775807 then
 False
 else
 (lt (v21 ++ ByteArray.mk #[(9 : UInt8)] ++ ByteArray.mk #[(83 : UInt8)]) fun v22 =>
 (if (↑(ByteArray.size v22 + (1 : Nat)) : Int) > 9223372036854775807 then
 False
 else
 k2 (((), x3.1.2.1, x3.1.2.2.1, v22 ++ ByteArray.mk #[(10 : UInt8)], w64 (x3.1.2.2.2.2.1 + 1), ()), x3.2))))))))))))))))
 else
 False)
 else
 (if x3.2.1.2.1 then
 xepactref01_Div x3.2.1.2.2.1 86400 (fun r23 r24 r25 =>
 xepactref04_Text r23 r24 (fun r26 r27 =>
 (if (↑(ByteArray.size x3.1.2.2.2.1 + (7 : Nat)) : Int) > 9223372036854775807 then
 False
 else
 (lt (x3.1.2.2.2.1 ++ ByteArray.mk #[(69 : UInt8), (120 : UInt8), (112 : UInt8), (105 : UInt8), (114 : UInt8), (101 : UInt8), (115 : UInt8)]) fun v28 =>
 (if (0 :Int) ≤ 19 ∧ 19 ≤ (↑(ByteArray.size r26) : Int) then
 xepactref11_date r23 (fun r29 =>
 (if (↑(ByteArray.size v28 + ByteArray.size r29) : Int) > 9223372036854775807 then
 False
 else
 (if (↑(ByteArray.size (v28 ++ r29) + ByteArray.size (ByteArray.extract r26 (11 : Nat) (19 : Nat))) : Int) > 9223372036854775807 then
 False
 else
 (lt (v28 ++ r29 ++ ByteArray.extract r26 (11 : Nat) (19 : Nat)) fun v30 =>
 (if (↑(ByteArray.size v30 + (1 : Nat)) : Int) > 9223372036854775807 then
 False
 else
 K (v30 ++ ByteArray.mk #[(10 : UInt8)]) true)))))
 else
 False)))))
 else
 K x3.1.2.2.2.1 true))
def Lepactref11_Text_0p : Lp := ⟨62, [.trim 62], pT111, pH52, 0⟩
def Yepactref11_Text (xepactref09_Right : Tepactref09_Right) (xepactref11_date : Tepactref11_date) (xepactref01_Div : Tepactref01_Div) (xepactref04_Text : Tepactref04_Text) (a0 : Q49) (K : ByteArray → Bool → Prop) : Prop :=
 xepactref09_Right a0 (fun r1 =>
 (if (!r1) then
 K (ByteArray.mk #[]) false
 else
 lp (Lepactref11_Text_0 xepactref11_date xepactref01_Div xepactref04_Text K) (((), ByteArray.mk #[], false, ByteArray.mk #[], 0, ()), a0, ())))
def Xepactref11_Text : Tepactref11_Text := Yepactref11_Text Xepactref09_Right Xepactref11_date Xepactref01_Div Xepactref04_Text
def Jepactref11_Text (X : Tepactref11_Text) : Inst := mkI 11 pL53 .nil pL71 .nil X
def Iepactref11_Text : Inst := Jepactref11_Text Xepactref11_Text
theorem Eepactref11_Text (xepactref09_Right : Tepactref09_Right) (xepactref11_date : Tepactref11_date) (xepactref01_Div : Tepactref01_Div) (xepactref04_Text : Tepactref04_Text) : EqF Tryz.prog 71 gives Tryz.f11 [Jepactref09_Right xepactref09_Right, Jepactref11_date xepactref11_date, Jepactref01_Div xepactref01_Div, Jepactref04_Text xepactref04_Text] [Lepactref11_Text_0p] (Jepactref11_Text (Yepactref11_Text xepactref09_Right xepactref11_date xepactref01_Div xepactref04_Text)) := fun x y K => by kernel_rfl
theorem Iepactref11_Text_ok : InstOk Tryz.prog G.1 Iepactref11_Text := iok (gives := gives) [Lepactref11_Text_0p] (okCons Iepactref09_Right_ok (okCons Iepactref11_date_ok (okCons Iepactref01_Div_ok (okCons Iepactref04_Text_ok okNil)))) 71 follows Tryz.func11 (by kernel_rfl) (fun x => by kernel_rfl) (Eepactref11_Text Xepactref09_Right Xepactref11_date Xepactref01_Div Xepactref04_Text)

/- epact/epactlaw11.ZicTells -/
abbrev Tepactlaw11_ZicTells : Type := ByteArray → Q49 → ByteArray → (Bool → Prop) → Prop
def Yepactlaw11_ZicTells (xepactlaw11_small : Tepactlaw11_small) (xepactlaw09_Few : Tepactlaw09_Few) (xzic_Parse : Tzic_Parse) (xepactref11_Parse : Tepactref11_Parse) (xzic_Text : Tzic_Text) (xepactref11_Text : Tepactref11_Text) (xzic_Month : Tzic_Month) (xepactref11_Month : Tepactref11_Month) (xzic_Clock : Tzic_Clock) (xepactref11_Clock : Tepactref11_Clock) (xepactref09_Same : Tepactref09_Same) (a0 : ByteArray) (a1 : Q49) (a2 : ByteArray) (K : Bool → Prop) : Prop :=
 xepactlaw11_small (fun r3 =>
 xepactlaw09_Few a1 (fun r4 =>
 (if decide ((↑(ByteArray.size a0) : Int) > 3000) then
 K r3
 else
 (if decide ((↑(ByteArray.size a2) : Int) > 100) then
 K r3
 else
 (if (!r4) then
 K r3
 else
 xzic_Parse a0 (fun r5 r6 r7 r8 r9 =>
 xepactref11_Parse a0 (fun r10 r11 r12 r13 r14 =>
 xzic_Text a1 (fun r15 r16 =>
 xepactref11_Text a1 (fun r17 r18 =>
 xzic_Month a2 (fun r19 r20 =>
 xepactref11_Month a2 (fun r21 r22 =>
 xzic_Clock a2 (fun r23 r24 =>
 xepactref11_Clock a2 (fun r25 r26 =>
 (if r3 then
 xepactref09_Same (r7, r5.2) (r12, r10.2) (fun r27 =>
 (if r27 then
 (if (r6.1 == r11.1 && (r6.2.1 == r11.2.1 && true)) then
 (if (ByteArray.toList r15 == ByteArray.toList r17) then
 (if (r16 == r18) then
 (if (r19 == r21) then
 (if (r20 == r22) then
 (if (r23 == r25) then
 K (r24 == r26)
 else
 K false)
 else
 K false)
 else
 K false)
 else
 K false)
 else
 K false)
 else
 K false)
 else
 K false))
 else
 K false))))))))))))))
def Xepactlaw11_ZicTells : Tepactlaw11_ZicTells := Yepactlaw11_ZicTells Xepactlaw11_small Xepactlaw09_Few Xzic_Parse Xepactref11_Parse Xzic_Text Xepactref11_Text Xzic_Month Xepactref11_Month Xzic_Clock Xepactref11_Clock Xepactref09_Same
def Jepactlaw11_ZicTells (X : Tepactlaw11_ZicTells) : Inst := mkI 3 pL112 .nil pL8 .nil X
def Iepactlaw11_ZicTells : Inst := Jepactlaw11_ZicTells Xepactlaw11_ZicTells
theorem Eepactlaw11_ZicTells (xepactlaw11_small : Tepactlaw11_small) (xepactlaw09_Few : Tepactlaw09_Few) (xzic_Parse : Tzic_Parse) (xepactref11_Parse : Tepactref11_Parse) (xzic_Text : Tzic_Text) (xepactref11_Text : Tepactref11_Text) (xzic_Month : Tzic_Month) (xepactref11_Month : Tepactref11_Month) (xzic_Clock : Tzic_Clock) (xepactref11_Clock : Tepactref11_Clock) (xepactref09_Same : Tepactref09_Same) : EqF Tryz.prog 122 gives Tryz.f3 [Jepactlaw11_small xepactlaw11_small, Jepactlaw09_Few xepactlaw09_Few, Jzic_Parse xzic_Parse, Jepactref11_Parse xepactref11_Parse, Jzic_Text xzic_Text, Jepactref11_Text xepactref11_Text, Jzic_Month xzic_Month, Jepactref11_Month xepactref11_Month, Jzic_Clock xzic_Clock, Jepactref11_Clock xepactref11_Clock, Jepactref09_Same xepactref09_Same] [] (Jepactlaw11_ZicTells (Yepactlaw11_ZicTells xepactlaw11_small xepactlaw09_Few xzic_Parse xepactref11_Parse xzic_Text xepactref11_Text xzic_Month xepactref11_Month xzic_Clock xepactref11_Clock xepactref09_Same)) := fun x y K => by kernel_rfl
theorem Iepactlaw11_ZicTells_ok : InstOk Tryz.prog G.1 Iepactlaw11_ZicTells := iok (gives := gives) [] (okCons Iepactlaw11_small_ok (okCons Iepactlaw09_Few_ok (okCons Izic_Parse_ok (okCons Iepactref11_Parse_ok (okCons Izic_Text_ok (okCons Iepactref11_Text_ok (okCons Izic_Month_ok (okCons Iepactref11_Month_ok (okCons Izic_Clock_ok (okCons Iepactref11_Clock_ok (okCons Iepactref09_Same_ok okNil))))))))))) 122 follows Tryz.func3 (by kernel_rfl) (fun x => by kernel_rfl) (Eepactlaw11_ZicTells Xepactlaw11_small Xepactlaw09_Few Xzic_Parse Xepactref11_Parse Xzic_Text Xepactref11_Text Xzic_Month Xepactref11_Month Xzic_Clock Xepactref11_Clock Xepactref09_Same)

end Go.Proofs.YtoiiblhbojhogaaGreatDoor
end
section
set_option linter.unusedVariables false
set_option linter.unusedSimpArgs false

end
section
set_option linter.unusedVariables false
set_option linter.unusedSimpArgs false
set_option linter.unusedVariables false
namespace Go.Proofs.YtoiiblhbojhogaaGreatDoor
open Go Go.Proofs.YtoiiblhbojhogaaGreatDoor.Eng
abbrev akZicTells0 : AK := .str
abbrev akZicTells1 : AK := (.st (.cons (.sl (.st (.cons (.int .i64) (.cons (.int .i64) (.cons .bool .nil))))) (.cons .bool (.cons (.int .i64) .nil))))
abbrev akZicTells2 : AK := .str
/-- The law over plain data. -/
def PureZicTells : Prop := ∀ (a0 : akZicTells0.T) (h0 : akZicTells0.good a0) (a1 : akZicTells1.T) (h1 : akZicTells1.good a1) (a2 : akZicTells2.T) (h2 : akZicTells2.good a2), Xepactlaw11_ZicTells (akZicTells0.DV a0) (akZicTells1.DV a1) (akZicTells2.DV a2) (fun b => b = true)
end Go.Proofs.YtoiiblhbojhogaaGreatDoor
end
