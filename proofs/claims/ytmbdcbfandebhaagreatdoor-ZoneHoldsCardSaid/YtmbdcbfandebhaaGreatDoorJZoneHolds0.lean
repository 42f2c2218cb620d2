/- What the functions come to in plain data, with proofs, and what that answers. -/
import Derived.Test.YtmbdcbfandebhaaGreatDoorE2
import Derived.Shelf.Small.Wraps
import Derived.Shelf.Strconv.Atoi
import Derived.Shelf.Strconv.Itoa0
import Derived.Shelf.Strconv.Itoa1
import Derived.Shelf.LaysM
import Derived.Shelf.Strconv.Itoa2
import Derived.Shelf.Strconv.Itoa3
import Derived.Shelf.Strconv.AtoiErrFast
import Derived.Shelf.Strconv.ParseIntEmpty
import Derived.Shelf.Strconv.AtoiFail
import Derived.Shelf.Strconv.Clone
import Derived.Shelf.Strconv.SyntaxError
import Derived.Shelf.LaysC
import Derived.Shelf.Strconv.ToError
import Derived.Shelf.Strconv.Lower
import Derived.Shelf.Strconv.ParseUint10
import Derived.Shelf.Strconv.ParseUint10Empty
import Derived.Shelf.Strconv.ParseUint10Any
import Derived.Shelf.Strconv.ParseInt10
import Derived.Shelf.Strconv.AtoiLong
import Derived.Shelf.Strconv.AtoiInnerAll
import Derived.Shelf.Strconv.RangeError
import Derived.Shelf.Strconv.ToErrorRange
import Derived.Shelf.Strconv.AtoiAll
import Derived.Shelf.Strconv.ErrVarAll
import Derived.Shelf.Strconv.ParseUintEmpty
import Derived.Shelf.Strings.Search1
import Derived.Shelf.Strings.Search2
import Derived.Shelf.Strings.Cut
import Derived.Shelf.Strings.Shaped
import Derived.Shelf.Strings.Prefix
import Derived.Test.YtmbdcbfandebhaaGreatDoorProg
import Derived.Below
import Derived.KernelRfl
import Derived.Lib.AppendIntMem
import Derived.Lib.ItoaMem
import Derived.Lib.ItoaNum
import Derived.Lib.AtoiErrMem
import Derived.Lib.LaidTab
import Derived.Lib.Strings
import Derived.Lib.Atoi
import Derived.Laws.Concat
import Derived.Laws.RangeString
import Derived.Laws.RangeAny
section
set_option linter.unusedVariables false
set_option linter.unusedSimpArgs false
namespace Go.Proofs
open Go.Shelf
def Tryz.lays172_ren : Go.Shelf.Ren := ⟨fun | 172 => 124 | 244 => 143 | 245 => 144 | 247 => 155 | 279 => 156 | 280 => 157 | 281 => 158 | 282 => 159 | 287 => 166 | 316 => 167 | 171 => 169 | 205 => 168 | 321 => 172 | 322 => 173 | 243 => 174 | 246 => 175 | 283 => 176 | 284 => 177 | 285 => 178 | 286 => 179 | 129 => 181 | 317 => 180 | 318 => 182 | 319 => 183 | 320 => 184 | 337 => 185 | 338 => 186 | n => n, fun | 9 => 9 | 3 => 3 | 75 => 148 | 76 => 149 | 4 => 4 | 5 => 5 | 167 => 161 | 37 => 47 | 0 => 0 | 85 => 162 | 2 => 2 | 168 => 164 | 53 => 170 | 175 => 171 | 46 => 115 | 210 => 175 | 127 => 182 | 145 => 185 | 143 => 183 | 21 => 21 | 171 => 187 | 173 => 190 | 212 => 192 | 51 => 178 | 20 => 20 | 213 => 193 | 232 => 196 | 233 => 197 | 80 => 198 | n => n, fun | 15 => 1 | 16 => 2 | 17 => 3 | 18 => 4 | 19 => 5 | n => n⟩
theorem Tryz.lays172 : Go.Proofs.Lays.n172 Tryz.prog Tryz.lays172_ren := {
  mixed := by kernel_rfl
  f129 := Tryz.func181.trans (congrArg some (by kernel_rfl))
  f171 := Tryz.func169.trans (congrArg some (by kernel_rfl))
  f172 := Tryz.func124.trans (congrArg some (by kernel_rfl))
  f205 := Tryz.func168.trans (congrArg some (by kernel_rfl))
  f243 := Tryz.func174.trans (congrArg some (by kernel_rfl))
  f244 := Tryz.func143.trans (congrArg some (by kernel_rfl))
  f245 := Tryz.func144.trans (congrArg some (by kernel_rfl))
  f246 := Tryz.func175.trans (congrArg some (by kernel_rfl))
  f247 := Tryz.func155.trans (congrArg some (by kernel_rfl))
  f279 := Tryz.func156.trans (congrArg some (by kernel_rfl))
  f280 := Tryz.func157.trans (congrArg some (by kernel_rfl))
  f281 := Tryz.func158.trans (congrArg some (by kernel_rfl))
  f282 := Tryz.func159.trans (congrArg some (by kernel_rfl))
  f283 := Tryz.func176.trans (congrArg some (by kernel_rfl))
  f284 := Tryz.func177.trans (congrArg some (by kernel_rfl))
  f285 := Tryz.func178.trans (congrArg some (by kernel_rfl))
  f286 := Tryz.func179.trans (congrArg some (by kernel_rfl))
  f287 := Tryz.func166.trans (congrArg some (by kernel_rfl))
  f316 := Tryz.func167.trans (congrArg some (by kernel_rfl))
  f317 := Tryz.func180.trans (congrArg some (by kernel_rfl))
  f318 := Tryz.func182.trans (congrArg some (by kernel_rfl))
  f319 := Tryz.func183.trans (congrArg some (by kernel_rfl))
  f320 := Tryz.func184.trans (congrArg some (by kernel_rfl))
  f321 := Tryz.func172.trans (congrArg some (by kernel_rfl))
  f322 := Tryz.func173.trans (congrArg some (by kernel_rfl))
  f337 := Tryz.func185.trans (congrArg some (by kernel_rfl))
  f338 := Tryz.func186.trans (congrArg some (by kernel_rfl))
  t0 := Tryz.underlying0
  a0 := Tryz.isAgg0
  z0 := Tryz.sizeOf0
  v0 := Tryz.zeroValue0
  t2 := Tryz.underlying2
  a2 := Tryz.isAgg2
  z2 := Tryz.sizeOf2
  v2 := Tryz.zeroValue2
  t3 := Tryz.underlying3
  a3 := Tryz.isAgg3
  z3 := Tryz.sizeOf3
  v3 := Tryz.zeroValue3
  t4 := Tryz.underlying4
  a4 := Tryz.isAgg4
  z4 := Tryz.sizeOf4
  v4 := Tryz.zeroValue4
  t5 := Tryz.underlying5
  a5 := Tryz.isAgg5
  z5 := Tryz.sizeOf5
  v5 := Tryz.zeroValue5
  t9 := Tryz.underlying9
  a9 := Tryz.isAgg9
  z9 := Tryz.sizeOf9
  v9 := Tryz.zeroValue9
  t20 := Tryz.underlying20
  a20 := Tryz.isAgg20
  z20 := Tryz.sizeOf20
  v20 := Tryz.zeroValue20
  t21 := Tryz.underlying21
  a21 := Tryz.isAgg21
  z21 := Tryz.sizeOf21
  v21 := Tryz.zeroValue21
  t37 := Tryz.underlying47
  a37 := Tryz.isAgg47
  z37 := Tryz.sizeOf47
  v37 := Tryz.zeroValue47
  t46 := Tryz.underlying115
  a46 := Tryz.isAgg115
  z46 := Tryz.sizeOf115
  v46 := Tryz.zeroValue115
  t51 := Tryz.underlying178
  a51 := Tryz.isAgg178
  z51 := Tryz.sizeOf178
  v51 := Tryz.zeroValue178
  t53 := Tryz.underlying170
  a53 := Tryz.isAgg170
  z53 := Tryz.sizeOf170
  v53 := Tryz.zeroValue170
  t75 := Tryz.underlying148
  a75 := Tryz.isAgg148
  z75 := Tryz.sizeOf148
  v75 := Tryz.zeroValue148
  t76 := Tryz.underlying149
  a76 := Tryz.isAgg149
  z76 := Tryz.sizeOf149
  v76 := Tryz.zeroValue149
  t85 := Tryz.underlying162
  a85 := Tryz.isAgg162
  z85 := Tryz.sizeOf162
  v85 := Tryz.zeroValue162
  t127 := Tryz.underlying182
  a127 := Tryz.isAgg182
  z127 := Tryz.sizeOf182
  v127 := Tryz.zeroValue182
  t143 := Tryz.underlying183
  a143 := Tryz.isAgg183
  z143 := Tryz.sizeOf183
  v143 := Tryz.zeroValue183
  t145 := Tryz.underlying185
  a145 := Tryz.isAgg185
  z145 := Tryz.sizeOf185
  v145 := Tryz.zeroValue185
  t167 := Tryz.underlying161
  a167 := Tryz.isAgg161
  z167 := Tryz.sizeOf161
  v167 := Tryz.zeroValue161
  t168 := Tryz.underlying164
  a168 := Tryz.isAgg164
  z168 := Tryz.sizeOf164
  v168 := Tryz.zeroValue164
  t171 := Tryz.underlying187
  a171 := Tryz.isAgg187
  z171 := Tryz.sizeOf187
  v171 := Tryz.zeroValue187
  t173 := Tryz.underlying190
  a173 := Tryz.isAgg190
  z173 := Tryz.sizeOf190
  v173 := Tryz.zeroValue190
  t175 := Tryz.underlying171
  a175 := Tryz.isAgg171
  z175 := Tryz.sizeOf171
  v175 := Tryz.zeroValue171
  t210 := Tryz.underlying175
  a210 := Tryz.isAgg175
  z210 := Tryz.sizeOf175
  v210 := Tryz.zeroValue175
  t212 := Tryz.underlying192
  a212 := Tryz.isAgg192
  z212 := Tryz.sizeOf192
  v212 := Tryz.zeroValue192
  t213 := Tryz.underlying193
  a213 := Tryz.isAgg193
  z213 := Tryz.sizeOf193
  t232 := Tryz.underlying196
  a232 := Tryz.isAgg196
  z232 := Tryz.sizeOf196
  v232 := Tryz.zeroValue196
  t233 := Tryz.underlying197
  a233 := Tryz.isAgg197
  z233 := Tryz.sizeOf197
  v233 := Tryz.zeroValue197
  g15 := by kernel_rfl
  g16 := by kernel_rfl
  g17 := by kernel_rfl
  g18 := by kernel_rfl
  g19 := by kernel_rfl }
open Go.RowKit in
/-- strconv.Atoi: "Atoi is equivalent to ParseInt(s, 10, 0), converted to type int.": AT A DECIMAL NUMERAL OF AT MOST 18 BYTES: its value, and a nil error. The world behind the call: the one new row that the library's '[]byte(s)' lays. (LAID: no walk: one application.) -/
theorem Tryz.strconv_Atoi (s : ByteArray) (n : Int) (hl : s.size ≤ 18) (h : Lib.atoi s.data.toList = some n) (w : World) :
    Calls Tryz.prog 124 #[.string s] w fun e w' => e = .returned (.tuple #[.int .i64 n, .nilIface]) ∧ ∃ t, w' = Lib.bytesWorld w 5 t := Any.strconv_Atoi Tryz.lays172 s n hl h w
def Tryz.laysM171_ren : Go.Shelf.Ren := ⟨fun | 171 => 169 | 243 => 174 | 246 => 175 | 283 => 176 | 284 => 177 | 285 => 178 | 286 => 179 | 129 => 181 | 317 => 180 | 318 => 182 | 319 => 183 | 320 => 184 | 337 => 185 | 338 => 186 | n => n, fun | 3 => 3 | 9 => 9 | 2 => 2 | 4 => 4 | 171 => 187 | 0 => 0 | 53 => 170 | 37 => 47 | 5 => 5 | 173 => 190 | 212 => 192 | 51 => 178 | 20 => 20 | 213 => 193 | 46 => 115 | 232 => 196 | 233 => 197 | n => n, fun | 17 => 3 | 18 => 4 | 19 => 5 | n => n⟩
theorem Tryz.laysM171 : Go.Proofs.LaysM.n171 Tryz.prog Tryz.laysM171_ren := {
  mixed := by kernel_rfl
  f129 := Tryz.func181.trans (congrArg some (by kernel_rfl))
  f171 := Tryz.func169.trans (congrArg some (by kernel_rfl))
  f243 := Tryz.func174.trans (congrArg some (by kernel_rfl))
  f246 := Tryz.func175.trans (congrArg some (by kernel_rfl))
  f283 := Tryz.func176.trans (congrArg some (by kernel_rfl))
  f284 := Tryz.func177.trans (congrArg some (by kernel_rfl))
  f285 := Tryz.func178.trans (congrArg some (by kernel_rfl))
  f286 := Tryz.func179.trans (congrArg some (by kernel_rfl))
  f317 := Tryz.func180.trans (congrArg some (by kernel_rfl))
  f318 := Tryz.func182.trans (congrArg some (by kernel_rfl))
  f319 := Tryz.func183.trans (congrArg some (by kernel_rfl))
  f320 := Tryz.func184.trans (congrArg some (by kernel_rfl))
  f337 := Tryz.func185.trans (congrArg some (by kernel_rfl))
  f338 := Tryz.func186.trans (congrArg some (by kernel_rfl))
  t0 := Tryz.underlying0
  a0 := Tryz.isAgg0
  z0 := Tryz.sizeOf0
  v0 := Tryz.zeroValue0
  t2 := Tryz.underlying2
  a2 := Tryz.isAgg2
  z2 := Tryz.sizeOf2
  v2 := Tryz.zeroValue2
  t3 := Tryz.underlying3
  a3 := Tryz.isAgg3
  z3 := Tryz.sizeOf3
  v3 := Tryz.zeroValue3
  t4 := Tryz.underlying4
  a4 := Tryz.isAgg4
  z4 := Tryz.sizeOf4
  v4 := Tryz.zeroValue4
  t5 := Tryz.underlying5
  a5 := Tryz.isAgg5
  z5 := Tryz.sizeOf5
  v5 := Tryz.zeroValue5
  t9 := Tryz.underlying9
  a9 := Tryz.isAgg9
  z9 := Tryz.sizeOf9
  v9 := Tryz.zeroValue9
  t20 := Tryz.underlying20
  a20 := Tryz.isAgg20
  z20 := Tryz.sizeOf20
  v20 := Tryz.zeroValue20
  t37 := Tryz.underlying47
  a37 := Tryz.isAgg47
  z37 := Tryz.sizeOf47
  v37 := Tryz.zeroValue47
  t46 := Tryz.underlying115
  a46 := Tryz.isAgg115
  z46 := Tryz.sizeOf115
  v46 := Tryz.zeroValue115
  t51 := Tryz.underlying178
  a51 := Tryz.isAgg178
  z51 := Tryz.sizeOf178
  v51 := Tryz.zeroValue178
  t53 := Tryz.underlying170
  a53 := Tryz.isAgg170
  z53 := Tryz.sizeOf170
  v53 := Tryz.zeroValue170
  t171 := Tryz.underlying187
  a171 := Tryz.isAgg187
  z171 := Tryz.sizeOf187
  v171 := Tryz.zeroValue187
  t173 := Tryz.underlying190
  a173 := Tryz.isAgg190
  z173 := Tryz.sizeOf190
  v173 := Tryz.zeroValue190
  t212 := Tryz.underlying192
  a212 := Tryz.isAgg192
  z212 := Tryz.sizeOf192
  v212 := Tryz.zeroValue192
  t213 := Tryz.underlying193
  a213 := Tryz.isAgg193
  z213 := Tryz.sizeOf193
  t232 := Tryz.underlying196
  a232 := Tryz.isAgg196
  z232 := Tryz.sizeOf196
  v232 := Tryz.zeroValue196
  t233 := Tryz.underlying197
  a233 := Tryz.isAgg197
  z233 := Tryz.sizeOf197
  v233 := Tryz.zeroValue197
  g17 := by kernel_rfl
  g18 := by kernel_rfl
  g19 := by kernel_rfl
  i0 := by kernel_rfl
  i2 := by kernel_rfl
  i3 := by kernel_rfl
  i4 := by kernel_rfl
  i5 := by kernel_rfl
  i9 := by kernel_rfl
  i20 := by kernel_rfl
  i37 := by kernel_rfl
  i46 := by kernel_rfl
  i51 := by kernel_rfl
  i53 := by kernel_rfl
  i171 := by kernel_rfl
  i173 := by kernel_rfl
  i212 := by kernel_rfl
  i232 := by kernel_rfl
  i233 := by kernel_rfl
  m17 := by kernel_rfl
  m18 := by kernel_rfl
  m19 := by kernel_rfl }
open Go.RowKit Go.Sort Go.Lib in
/-- strconv.Itoa: "Itoa is equivalent to FormatInt(int64(i), 10).": i's DECIMAL NUMERAL ('Lib.itoa': a '-' where i is negative, then the digits), FOR EVERY int. The world behind the call: the world before it, new blocks behind the heap (the library's 'var a [24]byte'), draws. (LAID: no walk: one application.) -/
theorem Tryz.strconv_Itoa (n : Int) (h0 : -9223372036854775808 ≤ n) (h1 : n ≤ 9223372036854775807) (w : World) (htab : Lib.TabIs Tryz.prog w "internal/strconv.uint64pow10" .u64 Lib.pow10Tab) :
    Calls Tryz.prog 169 #[.int .i64 n] w fun e w' => e = .returned (.string ⟨(Lib.itoa n).toArray⟩) ∧ ∃ k os, w' = grow (w.drewN k) os := Any.strconv_Itoa Tryz.laysM171 n h0 h1 w htab
def Tryz.lays217_ren : Go.Shelf.Ren := ⟨fun | 217 => 162 | 266 => 170 | n => n, fun | 9 => 9 | 5 => 5 | 3 => 3 | n => n, fun | n => n⟩
theorem Tryz.lays217 : Go.Proofs.Lays.n217 Tryz.prog Tryz.lays217_ren := {
  mixed := by kernel_rfl
  f217 := Tryz.func162.trans (congrArg some (by kernel_rfl))
  f266 := Tryz.func170.trans (congrArg some (by kernel_rfl))
  t3 := Tryz.underlying3
  a3 := Tryz.isAgg3
  z3 := Tryz.sizeOf3
  v3 := Tryz.zeroValue3
  t5 := Tryz.underlying5
  a5 := Tryz.isAgg5
  z5 := Tryz.sizeOf5
  v5 := Tryz.zeroValue5
  t9 := Tryz.underlying9
  a9 := Tryz.isAgg9
  z9 := Tryz.sizeOf9
  v9 := Tryz.zeroValue9 }
open Go.RowKit Go.Lib in
/-- internal/stringslite.IndexByte (what strings.IndexByte calls): IT RETURNS 'Lib.indexByte s c'; the world is as it was. (LAID: no walk: one application.) -/
theorem Tryz.stringslite_IndexByte (s : ByteArray) (c : Int) (w : World) :
    Calls Tryz.prog 162 #[.string s, .int .u8 c] w fun e w' => e = .returned (.int .i64 (Lib.indexByte s.data.toList c.toNat.toUInt8)) ∧ w' = w := Any.stringslite_IndexByte Tryz.lays217 s c w
end Go.Proofs
end
section
set_option linter.unusedVariables false
set_option linter.unusedSimpArgs false
namespace Go.Proofs.YtmbdcbfandebhaaGreatDoor
open Go Go.Proofs.YtmbdcbfandebhaaGreatDoor.Eng Go.RowKit
set_option linter.unusedVariables false
def gives : FuncId → Bool := fun _ => false
theorem follows : Tryz.prog.follows .mixedOrders = true := by kernel_rfl
/-- Objects of memory that stay as they are, and hold a table. -/
abbrev Gs := {l : List (Nat × Obj) // ∀ w : World, (∀ x ∈ l, w.heap[x.1]? = some x.2) → Lib.TabIs Tryz.prog w "internal/strconv.uint64pow10" .u64 Lib.pow10Tab}
variable {G : Gs}

abbrev Tatoi : Type := ByteArray → (Int → Value → Prop) → Prop
abbrev Titoa : Type := Int → (ByteArray → Prop) → Prop
abbrev TindexByte : Type := ByteArray → Int → (Int → Prop) → Prop
def Xatoi (s : ByteArray) (K : Int → Value → Prop) : Prop := ∃ n, s.size ≤ 18 ∧ Lib.atoi s.data.toList = some n ∧ K n .nilIface
def Jatoi (X : ByteArray → (Int → Value → Prop) → Prop) : Inst := ⟨124, (.cons .str .nil), .nil, (.cons (.int .i64) (.cons .val .nil)), .nil, fun x y K => X x.1 (fun u0 u1 => K (u0, (u1, ())) ())⟩
def Iatoi : Inst := Jatoi Xatoi
theorem Iatoi_ok : InstOk Tryz.prog G.1 Iatoi := fun ⟨s, _⟩ y K ⟨n, h1, h2, h3⟩ =>
  (told (args := [.string s]) (rs := [.int .i64 n, .nilIface]) rfl fun w _ => (Tryz.strconv_Atoi s n h1 h2 w).mono fun e w' ⟨he, t, hw⟩ => ⟨he, by subst hw; exact Lib.bytesWorld_below _ _ _⟩).mono fun rs h' ⟨e1, e2⟩ => ⟨(n, (.nilIface, ())), (), e1, e2, h3⟩
def Xitoa (n : Int) (K : ByteArray → Prop) : Prop := (-9223372036854775808 ≤ n ∧ n ≤ 9223372036854775807) ∧ K ⟨(Lib.itoa n).toArray⟩
def Jitoa (X : Int → (ByteArray → Prop) → Prop) : Inst := ⟨169, (.cons (.int .i64) .nil), .nil, (.cons .str .nil), .nil, fun x y K => X x.1 (fun u0 => K (u0, ()) ())⟩
def Iitoa : Inst := Jitoa Xitoa
theorem Iitoa_ok : InstOk Tryz.prog G.1 Iitoa := fun ⟨n, _⟩ y K ⟨h1, h3⟩ =>
  (told (args := [.int .i64 n]) (rs := [.string ⟨(Lib.itoa n).toArray⟩]) rfl fun w hw => (Tryz.strconv_Itoa n h1.1 h1.2 w (G.2 w hw)).mono fun e w' ⟨he, k, os, hw⟩ => ⟨he, by subst hw; exact Lib.below_grow _ _ (Nat.le_refl _) _ _⟩).mono fun rs h' ⟨e1, e2⟩ => ⟨(⟨(Lib.itoa n).toArray⟩, ()), (), e1, e2, h3⟩
def XindexByte (s : ByteArray) (c : Int) (K : Int → Prop) : Prop := K (Lib.indexByte s.data.toList c.toNat.toUInt8)
def JindexByte (X : ByteArray → Int → (Int → Prop) → Prop) : Inst := ⟨162, (.cons .str (.cons (.int .u8) .nil)), .nil, (.cons (.int .i64) .nil), .nil, fun x y K => X x.1 x.2.1 (fun u0 => K (u0, ()) ())⟩
def IindexByte : Inst := JindexByte XindexByte
theorem IindexByte_ok : InstOk Tryz.prog G.1 IindexByte := fun ⟨s, c, _⟩ y K h3 =>
  (told (args := [.string s, .int .u8 c]) (rs := [.int .i64 (Lib.indexByte s.data.toList c.toNat.toUInt8)]) rfl fun w _ => (Tryz.stringslite_IndexByte s c w).mono fun e w' ⟨he, hw⟩ => ⟨he, by subst hw; exact Below.refl _ _⟩).mono fun rs h' ⟨e1, e2⟩ => ⟨(_, ()), (), e1, e2, h3⟩
/-- Where the table stands in memory, it stays. -/
theorem gs_of {w : World} (h : Lib.TabIs Tryz.prog w "internal/strconv.uint64pow10" .u64 Lib.pow10Tab) : ∃ G : Gs, ∀ x ∈ G.1, w.heap[x.1]? = some x.2 := by
  unfold Lib.TabIs World.var? at h
  cases hg : Tryz.prog.globalNamed "internal/strconv.uint64pow10" with
  | none => rw [hg] at h; cases h
  | some g =>
    rw [hg] at h
    simp only [Option.bind_some] at h
    cases ho : w.heap[g]? with
    | none => rw [ho] at h; cases h
    | some o =>
      rw [ho] at h
      refine ⟨⟨[(g, o)], fun w' hw => ?_⟩, fun x hx => ?_⟩
      · have := hw (g, o) (.head _)
        unfold Lib.TabIs World.var?
        rw [hg]
        simp only [Option.bind_some, this]
        exact h
      · simp only [List.mem_singleton] at hx
        subst hx; exact ho
theorem globN : Tryz.prog.globalNamed "internal/strconv.uint64pow10" = some 3 := by kernel_rfl
end Go.Proofs.YtmbdcbfandebhaaGreatDoor
end
section
set_option linter.unusedVariables false
set_option linter.unusedSimpArgs false
namespace Go.Proofs.YtmbdcbfandebhaaGreatDoor
open Go Go.Proofs.YtmbdcbfandebhaaGreatDoor.Eng
set_option linter.unusedVariables false
set_option maxRecDepth 100000
set_option maxHeartbeats 4000000
variable {G : Gs}
abbrev pL0 : PL := (.cons (.slN 3) .nil)
abbrev pL1 : PL := (.cons (.sla 0) .nil)
abbrev pH2 : PH := (.cons 0 (.arrB 3) .nil)
abbrev pL3 : PL := (.cons (.slN 2) .nil)
abbrev pH4 : PH := (.cons 0 (.arrB 2) .nil)
abbrev Q5 : Type := List Eng.V × List Eng.V × List Eng.V × ByteArray × Int × Unit
abbrev Q6 : Type := Unit × Unit × Unit × ByteArray × Int × Unit
abbrev pL7 : PL := (.cons (.agg (.cons (.slN 3) (.cons (.slN 2) (.cons (.slN 2) (.cons .str (.cons (.int .i64) .nil)))))) .nil)
abbrev pL8 : PL := (.cons (.agg (.cons (.sla 0) (.cons (.sla 1) (.cons (.sla 2) (.cons .str (.cons (.int .i64) .nil)))))) .nil)
abbrev pH9 : PH := (.cons 0 (.arrB 3) (.cons 1 (.arrB 2) (.cons 2 (.arrB 2) .nil)))
abbrev pL10 : PL := (.cons (.int .i32) .nil)
abbrev pL11 : PL := (.cons .bool .nil)
abbrev Q12 : Type := ((Unit × Unit) × Bool × Int × Unit × Unit) × (ByteArray × Nat) × Unit
abbrev pT13 : PT := (.cons 1 (.fn (.func 131) .nil .nil) (.cons 2 .bool (.cons 6 (.int .i64) (.cons 10 (.it 224) .nil))))
abbrev pH14 : PH := (.cons 224 .iter .nil)
abbrev pL15 : PL := (.cons .str (.cons (.fn (.func 131) .nil .nil) (.cons .bool .nil)))
abbrev pL16 : PL := (.cons (.int .i64) .nil)
abbrev pL17 : PL := (.cons .str (.cons (.fn (.func 131) .nil .nil) .nil))
abbrev pL18 : PL := (.cons .str .nil)
abbrev Q19 : Type := (ByteArray × Unit × Bool × Unit × List Eng.V × Int × Int × Unit) × List (Go.Value × Eng.V) × List Eng.V × Unit
abbrev pT20 : PT := (.cons 2 .str (.cons 3 (.sla 816) (.cons 4 .bool (.cons 5 (.mp 224) (.cons 11 (.slN 1) (.cons 12 (.int .i64) (.cons 13 (.int .i64) .nil)))))))
abbrev pH21 : PH := (.cons 224 .mapI (.cons 816 (.arr 1 true false) .nil))
abbrev pL22 : PL := (.cons (.slN 1) .nil)
abbrev pL23 : PL := (.cons .str (.cons (.sla 0) (.cons .bool .nil)))
abbrev pH24 : PH := (.cons 0 (.arrB 1) .nil)
abbrev Q25 : Type := (ByteArray × Unit × Bool × Unit × List Eng.V × Int × Int × Unit) × List Eng.V × Unit
abbrev pT26 : PT := (.cons 2 .str (.cons 3 (.nl 0) (.cons 4 .bool (.cons 5 (.sla 480) (.cons 9 (.slN 3) (.cons 10 (.int .i64) (.cons 11 (.int .i64) .nil)))))))
abbrev pH27 : PH := (.cons 480 (.arr 1 true false) .nil)
abbrev pL28 : PL := (.cons (.int .i64) (.cons (.int .i64) (.cons (.int .i64) .nil)))
abbrev Q29 : Type := Int × Int × Int × Int × Int × Int × Int × Unit
abbrev pL30 : PL := (.cons (.agg (.cons (.int .i64) (.cons (.int .i64) (.cons (.int .i64) (.cons (.int .i64) (.cons (.int .i64) (.cons (.int .i64) (.cons (.int .i64) .nil)))))))) .nil)
abbrev pL31 : PL := (.cons (.agg (.cons (.int .i64) (.cons (.int .i64) (.cons (.int .i64) (.cons (.int .i64) (.cons (.int .i64) (.cons (.int .i64) (.cons (.int .i64) .nil)))))))) (.cons .bool .nil))
abbrev pL32 : PL := (.cons (.int .i64) (.cons (.int .i64) .nil))
abbrev pL33 : PL := (.cons (.int .i64) (.cons .bool .nil))
abbrev Q34 : Type := (List Eng.V × Int × Int × Unit × List Eng.V × Int × Int × Unit) × (Int × Int × Unit) × Unit
abbrev pT35 : PT := (.cons 0 (.slN 2) (.cons 2 (.int .i64) (.cons 3 (.int .i64) (.cons 4 (.ptr 128 0) (.cons 12 (.slN 2) (.cons 13 (.int .i64) (.cons 14 (.int .i64) .nil)))))))
abbrev pH36 : PH := (.cons 128 (.cells [.int .i64, .int .i64] (.cons (.int .i64) (.cons (.int .i64) .nil))) .nil)
abbrev Q37 : Type := Int × Bool × ByteArray × Unit
abbrev pL38 : PL := (.cons (.int .i64) (.cons (.agg (.cons (.int .i64) (.cons .bool (.cons .str .nil)))) .nil))
abbrev Q39 : Type := ((Unit × Unit) × Bool × List Eng.V × Int × Int × Unit) × Unit
abbrev pT40 : PT := (.cons 1 (.fn (.func 31) .nil .nil) (.cons 4 .bool (.cons 7 (.slN 3) (.cons 8 (.int .i64) (.cons 9 (.int .i64) .nil)))))
abbrev pL41 : PL := (.cons (.slN 3) (.cons (.fn (.func 31) .nil .nil) .nil))
abbrev Q42 : Type := Int × Int × Unit
abbrev pL43 : PL := (.cons (.int .i64) (.cons (.agg (.cons (.int .i64) (.cons (.int .i64) .nil))) (.cons (.ptr 0 0) .nil)))
abbrev pH44 : PH := (.cons 0 (.cells [.sl 3, .sl 2, .sl 2, .str, .int .i64] (.cons (.slN 3) (.cons (.slN 2) (.cons (.slN 2) (.cons .str (.cons (.int .i64) .nil)))))) .nil)
abbrev pH45 : PH := (.cons 0 (.cells [.sl 3, .sl 2, .sl 2, .str, .int .i64] (.cons (.sla 1) (.cons (.sla 2) (.cons (.sla 3) (.cons .str (.cons (.int .i64) .nil)))))) (.cons 1 (.arrB 3) (.cons 2 (.arrB 2) (.cons 3 (.arrB 2) .nil))))
abbrev Q46 : Type := ((Unit × Unit × Unit) × Bool × List Eng.V × Int × Int × Unit) × (List Eng.V × List Eng.V × List Eng.V × ByteArray × Int × Unit) × Unit
abbrev pT47 : PT := (.cons 1 (.fn (.func 33) .nil (.cons (.ptr 0 0) .nil)) (.cons 4 .bool (.cons 7 (.slN 2) (.cons 8 (.int .i64) (.cons 9 (.int .i64) .nil)))))
abbrev pL48 : PL := (.cons (.slN 2) (.cons (.fn (.func 33) .nil (.cons (.ptr 0 0) .nil)) .nil))
abbrev pL49 : PL := (.cons .str (.cons .str .nil))
abbrev pL50 : PL := (.cons .str (.cons .bool .nil))
abbrev pL51 : PL := (.cons .str (.cons .str (.cons .bool .nil)))
abbrev pT52 : PT := (.cons 1 (.fn (.func 120) .nil .nil) (.cons 2 .bool (.cons 6 (.int .i64) (.cons 10 (.it 224) .nil))))
abbrev pL53 : PL := (.cons .str (.cons (.fn (.func 120) .nil .nil) (.cons .bool .nil)))
abbrev pL54 : PL := (.cons .str (.cons (.fn (.func 120) .nil .nil) .nil))
abbrev pL55 : PL := (.cons (.ptr 0 0) .nil)
abbrev pH56 : PH := (.cons 0 (.cells [.str, .int .i64, .bool, .str, .int .i64, .bool, .str, .bool, .int .i64, .int .i64, .int .i64, .int .i64, .int .i64, .int .i64, .int .i64, .int .i64, .int .i64, .int .i64] (.cons .str (.cons (.int .i64) (.cons .bool (.cons .str (.cons (.int .i64) (.cons .bool (.cons .str (.cons .bool (.cons (.int .i64) (.cons (.int .i64) (.cons (.int .i64) (.cons (.int .i64) (.cons (.int .i64) (.cons (.int .i64) (.cons (.int .i64) (.cons (.int .i64) (.cons (.int .i64) (.cons (.int .i64) .nil))))))))))))))))))) .nil)
abbrev Q57 : Type := (ByteArray × Int × Unit × Unit) × (ByteArray × Nat) × Unit
abbrev pT58 : PT := (.cons 0 .str (.cons 2 (.int .i64) (.cons 6 (.it 160) .nil)))
abbrev pH59 : PH := (.cons 160 .iter .nil)
abbrev pL60 : PL := (.cons (.int .i64) (.cons .str (.cons .bool .nil)))
abbrev pL61 : PL := (.cons (.agg (.cons (.int .i64) (.cons .bool (.cons .str .nil)))) (.cons .bool .nil))
abbrev Q62 : Type := Int × Int × Int × Int × Int × Unit
abbrev pL63 : PL := (.cons (.agg (.cons (.int .i64) (.cons (.int .i64) (.cons (.int .i64) (.cons (.int .i64) (.cons (.int .i64) .nil)))))) .nil)
abbrev Q64 : Type := Int × Bool × ByteArray × Int × Bool × ByteArray × Bool × Int × Int × Int × Int × Int × Int × Int × Int × Int × Int × Unit
abbrev pL65 : PL := (.cons (.agg (.cons (.int .i64) (.cons .bool (.cons .str (.cons (.int .i64) (.cons .bool (.cons .str (.cons .bool (.cons (.int .i64) (.cons (.int .i64) (.cons (.int .i64) (.cons (.int .i64) (.cons (.int .i64) (.cons (.int .i64) (.cons (.int .i64) (.cons (.int .i64) (.cons (.int .i64) (.cons (.int .i64) .nil)))))))))))))))))) .nil)
abbrev pL66 : PL := (.cons .str (.cons (.int .i64) .nil))
abbrev pL67 : PL := (.cons (.agg (.cons (.int .i64) (.cons (.int .i64) (.cons (.int .i64) (.cons (.int .i64) (.cons (.int .i64) .nil)))))) (.cons .str (.cons .bool .nil)))
abbrev pL68 : PL := (.cons (.ptr 0 0) (.cons (.ptr 0 8) .nil))
abbrev pL69 : PL := (.cons (.ptr 0 0) (.cons (.ptr 0 13) .nil))
abbrev pL70 : PL := (.cons (.agg (.cons (.int .i64) (.cons .bool (.cons .str (.cons (.int .i64) (.cons .bool (.cons .str (.cons .bool (.cons (.int .i64) (.cons (.int .i64) (.cons (.int .i64) (.cons (.int .i64) (.cons (.int .i64) (.cons (.int .i64) (.cons (.int .i64) (.cons (.int .i64) (.cons (.int .i64) (.cons (.int .i64) .nil)))))))))))))))))) (.cons .bool .nil))
abbrev pL71 : PL := (.cons (.int .i64) (.cons (.ptr 0 0) (.cons (.ptr 1 0) .nil)))
abbrev pH72 : PH := (.cons 0 (.cells [.sl 3, .sl 2, .sl 2, .str, .int .i64] (.cons (.slN 3) (.cons (.slN 2) (.cons (.slN 2) (.cons .str (.cons (.int .i64) .nil)))))) (.cons 1 (.cells [.int .i64] (.cons (.int .i64) .nil)) .nil))
abbrev pH73 : PH := (.cons 0 (.cells [.sl 3, .sl 2, .sl 2, .str, .int .i64] (.cons (.sla 2) (.cons (.sla 3) (.cons (.sla 4) (.cons .str (.cons (.int .i64) .nil)))))) (.cons 1 (.cells [.int .i64] (.cons (.int .i64) .nil)) (.cons 2 (.arrB 3) (.cons 3 (.arrB 2) (.cons 4 (.arrB 2) .nil)))))
abbrev Q74 : Type := ((Unit × Unit × Unit × Unit) × Int × Int × Int × Unit) × (List Eng.V × List Eng.V × List Eng.V × ByteArray × Int × Unit) × (Int × Unit) × Unit
abbrev pT75 : PT := (.cons 1 (.fn (.func 47) .nil (.cons (.ptr 0 0) (.cons (.ptr 1 0) .nil))) (.cons 4 (.int .i64) (.cons 5 (.int .i64) (.cons 6 (.int .i64) .nil))))
abbrev pL76 : PL := (.cons (.int .i64) (.cons (.fn (.func 47) .nil (.cons (.ptr 0 0) (.cons (.ptr 1 0) .nil))) .nil))
abbrev pL77 : PL := (.cons (.agg (.cons (.slN 3) (.cons (.slN 2) (.cons (.slN 2) (.cons .str (.cons (.int .i64) .nil)))))) (.cons (.int .i64) .nil))
abbrev pH78 : PH := (.cons 0 (.cells [.sl 2] (.cons (.sla 2) .nil)) (.cons 1 (.cells [.int .i64] (.cons (.int .i64) .nil)) (.cons 2 (.arrB 2) .nil)))
abbrev pH79 : PH := (.cons 0 (.cells [.sl 2] (.cons (.slN 2) .nil)) (.cons 1 (.cells [.int .i64] (.cons (.int .i64) .nil)) .nil))
abbrev Q80 : Type := ((Unit × Unit × Unit × Unit) × Int × Int × Int × Unit) × (List Eng.V × Unit) × (Int × Unit) × (List Eng.V × Bool × Bool) × Unit
abbrev pT81 : PT := (.cons 1 (.fn (.func 83) .nil (.cons (.ptr 0 0) (.cons (.ptr 1 0) .nil))) (.cons 4 (.int .i64) (.cons 5 (.int .i64) (.cons 6 (.int .i64) .nil))))
abbrev pH82 : PH := (.cons 0 (.cells [.sl 2] (.cons (.slN 2) .nil)) (.cons 1 (.cells [.int .i64] (.cons (.int .i64) .nil)) (.cons 2 (.arrB 2) .nil)))
abbrev pL83 : PL := (.cons (.int .i64) (.cons (.fn (.func 83) .nil (.cons (.ptr 0 0) (.cons (.ptr 1 0) .nil))) .nil))
abbrev pL84 : PL := (.cons (.slN 2) (.cons (.int .i64) .nil))
abbrev pL85 : PL := (.cons (.int .i64) (.cons (.int .i64) (.cons .bool .nil)))
abbrev pL86 : PL := (.cons (.int .i64) (.cons (.int .i64) (.cons (.int .i64) (.cons .bool .nil))))
abbrev pL87 : PL := (.cons (.agg (.cons (.int .i64) (.cons (.int .i64) (.cons (.int .i64) (.cons (.int .i64) (.cons (.int .i64) .nil)))))) (.cons (.int .i64) .nil))
abbrev pL88 : PL := (.cons (.agg (.cons (.int .i64) (.cons .bool (.cons .str (.cons (.int .i64) (.cons .bool (.cons .str (.cons .bool (.cons (.int .i64) (.cons (.int .i64) (.cons (.int .i64) (.cons (.int .i64) (.cons (.int .i64) (.cons (.int .i64) (.cons (.int .i64) (.cons (.int .i64) (.cons (.int .i64) (.cons (.int .i64) .nil)))))))))))))))))) (.cons (.int .i64) .nil))
abbrev pL89 : PL := (.cons (.agg (.cons (.int .i64) (.cons .bool (.cons .str .nil)))) .nil)
abbrev Q90 : Type := (List Eng.V × List Eng.V × Bool × Int × Int × Unit) × Unit
abbrev pT91 : PT := (.cons 0 (.slN 3) (.cons 1 (.slN 3) (.cons 4 .bool (.cons 12 (.int .i64) (.cons 13 (.int .i64) .nil)))))
abbrev pL92 : PL := (.cons (.slN 3) (.cons (.slN 3) .nil))
abbrev pT93 : PT := (.cons 0 (.slN 2) (.cons 1 (.slN 2) (.cons 4 .bool (.cons 12 (.int .i64) (.cons 13 (.int .i64) .nil)))))
abbrev pL94 : PL := (.cons (.slN 2) (.cons (.slN 2) .nil))
abbrev pL95 : PL := (.cons (.agg (.cons (.slN 3) (.cons (.slN 2) (.cons (.slN 2) (.cons .str (.cons (.int .i64) .nil)))))) (.cons (.agg (.cons (.slN 3) (.cons (.slN 2) (.cons (.slN 2) (.cons .str (.cons (.int .i64) .nil)))))) .nil))
abbrev Q96 : Type := (Unit × Bool × Int × Unit) × (List Eng.V × List Eng.V × List Eng.V × ByteArray × Int × Unit) × Unit
abbrev pT97 : PT := (.cons 1 (.ptr 80 0) (.cons 2 .bool (.cons 3 (.int .i64) .nil)))
abbrev pH98 : PH := (.cons 80 (.cells [.sl 3, .sl 2, .sl 2, .str, .int .i64] (.cons (.slN 3) (.cons (.slN 2) (.cons (.slN 2) (.cons .str (.cons (.int .i64) .nil)))))) .nil)
abbrev pT99 : PT := (.cons 1 (.fn (.func 60) .nil (.cons (.ptr 0 0) (.cons (.ptr 1 0) .nil))) (.cons 4 (.int .i64) (.cons 5 (.int .i64) (.cons 6 (.int .i64) .nil))))
abbrev pL100 : PL := (.cons (.int .i64) (.cons (.fn (.func 60) .nil (.cons (.ptr 0 0) (.cons (.ptr 1 0) .nil))) .nil))
/- slices.Clone[[]epact/api.Type,epact/api.Type] -/
abbrev Tslices_Clone___api_Type_api_Type_ : Type := (List Eng.V) → ((List Eng.V) → Bool → Bool → Prop) → Prop
def Yslices_Clone___api_Type_api_Type_ (a0 : (List Eng.V)) (K : (List Eng.V) → Bool → Bool → Prop) : Prop :=
 (if List.length a0 = (0 : Nat) then
 (
 K [] true true
 ∧
 (if Eng.roomOk ((0 : Nat) + List.length a0) (32 : Nat) then
 K ([] ++ a0) true false
 else
 False))
 else
 (if Eng.roomOk ((0 : Nat) + List.length a0) (32 : Nat) then
 K ([] ++ a0) true false
 else
 False))
def Xslices_Clone___api_Type_api_Type_ : Tslices_Clone___api_Type_api_Type_ := Yslices_Clone___api_Type_api_Type_
def Jslices_Clone___api_Type_api_Type_ (X : Tslices_Clone___api_Type_api_Type_) : Inst := mkI 43 pL0 .nil pL1 pH2 X
def Islices_Clone___api_Type_api_Type_ : Inst := Jslices_Clone___api_Type_api_Type_ Xslices_Clone___api_Type_api_Type_
theorem Eslices_Clone___api_Type_api_Type_ : EqF Tryz.prog 8 gives Tryz.f43 [] [] (Jslices_Clone___api_Type_api_Type_ (Yslices_Clone___api_Type_api_Type_)) := fun x y K => by kernel_rfl
theorem Islices_Clone___api_Type_api_Type__ok : InstOk Tryz.prog G.1 Islices_Clone___api_Type_api_Type_ := iok (gives := gives) [] okNil 8 follows Tryz.func43 (by kernel_rfl) (fun x => by kernel_rfl) (Eslices_Clone___api_Type_api_Type_)

/- slices.Clone[[]epact/api.Trans,epact/api.Trans] -/
abbrev Tslices_Clone___api_Trans_api_Trans_ : Type := (List Eng.V) → ((List Eng.V) → Bool → Bool → Prop) → Prop
def Yslices_Clone___api_Trans_api_Trans_ (a0 : (List Eng.V)) (K : (List Eng.V) → Bool → Bool → Prop) : Prop :=
 (if List.length a0 = (0 : Nat) then
 (
 K [] true true
 ∧
 (if Eng.roomOk ((0 : Nat) + List.length a0) (16 : Nat) then
 K ([] ++ a0) true false
 else
 False))
 else
 (if Eng.roomOk ((0 : Nat) + List.length a0) (16 : Nat) then
 K ([] ++ a0) true false
 else
 False))
def Xslices_Clone___api_Trans_api_Trans_ : Tslices_Clone___api_Trans_api_Trans_ := Yslices_Clone___api_Trans_api_Trans_
def Jslices_Clone___api_Trans_api_Trans_ (X : Tslices_Clone___api_Trans_api_Trans_) : Inst := mkI 44 pL3 .nil pL1 pH4 X
def Islices_Clone___api_Trans_api_Trans_ : Inst := Jslices_Clone___api_Trans_api_Trans_ Xslices_Clone___api_Trans_api_Trans_
theorem Eslices_Clone___api_Trans_api_Trans_ : EqF Tryz.prog 8 gives Tryz.f44 [] [] (Jslices_Clone___api_Trans_api_Trans_ (Yslices_Clone___api_Trans_api_Trans_)) := fun x y K => by kernel_rfl
theorem Islices_Clone___api_Trans_api_Trans__ok : InstOk Tryz.prog G.1 Islices_Clone___api_Trans_api_Trans_ := iok (gives := gives) [] okNil 8 follows Tryz.func44 (by kernel_rfl) (fun x => by kernel_rfl) (Eslices_Clone___api_Trans_api_Trans_)

/- slices.Clone[[]epact/api.Corr,epact/api.Corr] -/
abbrev Tslices_Clone___api_Corr_api_Corr_ : Type := (List Eng.V) → ((List Eng.V) → Bool → Bool → Prop) → Prop
def Yslices_Clone___api_Corr_api_Corr_ (a0 : (List Eng.V)) (K : (List Eng.V) → Bool → Bool → Prop) : Prop :=
 (if List.length a0 = (0 : Nat) then
 (
 K [] true true
 ∧
 (if Eng.roomOk ((0 : Nat) + List.length a0) (16 : Nat) then
 K ([] ++ a0) true false
 else
 False))
 else
 (if Eng.roomOk ((0 : Nat) + List.length a0) (16 : Nat) then
 K ([] ++ a0) true false
 else
 False))
def Xslices_Clone___api_Corr_api_Corr_ : Tslices_Clone___api_Corr_api_Corr_ := Yslices_Clone___api_Corr_api_Corr_
def Jslices_Clone___api_Corr_api_Corr_ (X : Tslices_Clone___api_Corr_api_Corr_) : Inst := mkI 45 pL3 .nil pL1 pH4 X
def Islices_Clone___api_Corr_api_Corr_ : Inst := Jslices_Clone___api_Corr_api_Corr_ Xslices_Clone___api_Corr_api_Corr_
theorem Eslices_Clone___api_Corr_api_Corr_ : EqF Tryz.prog 8 gives Tryz.f45 [] [] (Jslices_Clone___api_Corr_api_Corr_ (Yslices_Clone___api_Corr_api_Corr_)) := fun x y K => by kernel_rfl
theorem Islices_Clone___api_Corr_api_Corr__ok : InstOk Tryz.prog G.1 Islices_Clone___api_Corr_api_Corr_ := iok (gives := gives) [] okNil 8 follows Tryz.func45 (by kernel_rfl) (fun x => by kernel_rfl) (Eslices_Clone___api_Corr_api_Corr_)

/- epact/zone.Copy -/
abbrev Tzone_Copy : Type := Q5 → (Q6 → (List Eng.V) → Bool → Bool → (List Eng.V) → Bool → Bool → (List Eng.V) → Bool → Bool → Prop) → Prop
def Yzone_Copy (xslices_Clone___api_Type_api_Type_ : Tslices_Clone___api_Type_api_Type_) (xslices_Clone___api_Trans_api_Trans_ : Tslices_Clone___api_Trans_api_Trans_) (xslices_Clone___api_Corr_api_Corr_ : Tslices_Clone___api_Corr_api_Corr_) (a0 : Q5) (K : Q6 → (List Eng.V) → Bool → Bool → (List Eng.V) → Bool → Bool → (List Eng.V) → Bool → Bool → Prop) : Prop :=
 xslices_Clone___api_Type_api_Type_ a0.1 (fun r1 r2 r3 =>
 xslices_Clone___api_Trans_api_Trans_ a0.2.1 (fun r4 r5 r6 =>
 xslices_Clone___api_Corr_api_Corr_ a0.2.2.1 (fun r7 r8 r9 =>
 K ((), (), (), a0.2.2.2) r1 r2 r3 r4 r5 r6 r7 r8 r9)))
def Xzone_Copy : Tzone_Copy := Yzone_Copy Xslices_Clone___api_Type_api_Type_ Xslices_Clone___api_Trans_api_Trans_ Xslices_Clone___api_Corr_api_Corr_
def Jzone_Copy (X : Tzone_Copy) : Inst := mkI 15 pL7 .nil pL8 pH9 X
def Izone_Copy : Inst := Jzone_Copy Xzone_Copy
theorem Ezone_Copy (xslices_Clone___api_Type_api_Type_ : Tslices_Clone___api_Type_api_Type_) (xslices_Clone___api_Trans_api_Trans_ : Tslices_Clone___api_Trans_api_Trans_) (xslices_Clone___api_Corr_api_Corr_ : Tslices_Clone___api_Corr_api_Corr_) : EqF Tryz.prog 16 gives Tryz.f15 [Jslices_Clone___api_Type_api_Type_ xslices_Clone___api_Type_api_Type_, Jslices_Clone___api_Trans_api_Trans_ xslices_Clone___api_Trans_api_Trans_, Jslices_Clone___api_Corr_api_Corr_ xslices_Clone___api_Corr_api_Corr_] [] (Jzone_Copy (Yzone_Copy xslices_Clone___api_Type_api_Type_ xslices_Clone___api_Trans_api_Trans_ xslices_Clone___api_Corr_api_Corr_)) := fun x y K => by kernel_rfl
theorem Izone_Copy_ok : InstOk Tryz.prog G.1 Izone_Copy := iok (gives := gives) [] (okCons Islices_Clone___api_Type_api_Type__ok (okCons Islices_Clone___api_Trans_api_Trans__ok (okCons Islices_Clone___api_Corr_api_Corr__ok okNil))) 16 follows Tryz.func15 (by kernel_rfl) (fun x => by kernel_rfl) (Ezone_Copy Xslices_Clone___api_Type_api_Type_ Xslices_Clone___api_Trans_api_Trans_ Xslices_Clone___api_Corr_api_Corr_)

/- epact/abbr.good -/
abbrev Tabbr_good : Type := Int → (Bool → Prop) → Prop
def Yabbr_good (a0 : Int) (K : Bool → Prop) : Prop :=
 (if decide (a0 ≥ 97) then
 (if decide (a0 ≤ 122) then
 K true
 else
 (if decide (a0 ≥ 65) then
 (if decide (a0 ≤ 90) then
 K true
 else
 (if decide (a0 ≥ 48) then
 (if decide (a0 ≤ 57) then
 K true
 else
 (if (a0 == 43) then
 K true
 else
 K (a0 == 45)))
 else
 (if (a0 == 43) then
 K true
 else
 K (a0 == 45))))
 else
 (if decide (a0 ≥ 48) then
 (if decide (a0 ≤ 57) then
 K true
 else
 (if (a0 == 43) then
 K true
 else
 K (a0 == 45)))
 else
 (if (a0 == 43) then
 K true
 else
 K (a0 == 45)))))
 else
 (if decide (a0 ≥ 65) then
 (if decide (a0 ≤ 90) then
 K true
 else
 (if decide (a0 ≥ 48) then
 (if decide (a0 ≤ 57) then
 K true
 else
 (if (a0 == 43) then
 K true
 else
 K (a0 == 45)))
 else
 (if (a0 == 43) then
 K true
 else
 K (a0 == 45))))
 else
 (if decide (a0 ≥ 48) then
 (if decide (a0 ≤ 57) then
 K true
 else
 (if (a0 == 43) then
 K true
 else
 K (a0 == 45)))
 else
 (if (a0 == 43) then
 K true
 else
 K (a0 == 45)))))
def Xabbr_good : Tabbr_good := Yabbr_good
def Jabbr_good (X : Tabbr_good) : Inst := mkI 132 pL10 .nil pL11 .nil X
def Iabbr_good : Inst := Jabbr_good Xabbr_good
theorem Eabbr_good : EqF Tryz.prog 33 gives Tryz.f132 [] [] (Jabbr_good (Yabbr_good)) := fun x y K => by kernel_rfl
theorem Iabbr_good_ok : InstOk Tryz.prog G.1 Iabbr_good := iok (gives := gives) [] okNil 33 follows Tryz.func132 (by kernel_rfl) (fun x => by kernel_rfl) (Eabbr_good)

/- epact/abbr.Right$1 -/
abbrev Tabbr_Right_1 : Type := Int → (Bool → Prop) → Prop
def Yabbr_Right_1 (xabbr_good : Tabbr_good) (a0 : Int) (K : Bool → Prop) : Prop :=
 xabbr_good a0 (fun r1 =>
 K !r1)
def Xabbr_Right_1 : Tabbr_Right_1 := Yabbr_Right_1 Xabbr_good
def Jabbr_Right_1 (X : Tabbr_Right_1) : Inst := mkI 131 pL10 .nil pL11 .nil X
def Iabbr_Right_1 : Inst := Jabbr_Right_1 Xabbr_Right_1
theorem Eabbr_Right_1 (xabbr_good : Tabbr_good) : EqF Tryz.prog 6 gives Tryz.f131 [Jabbr_good xabbr_good] [] (Jabbr_Right_1 (Yabbr_Right_1 xabbr_good)) := fun x y K => by kernel_rfl
theorem Iabbr_Right_1_ok : InstOk Tryz.prog G.1 Iabbr_Right_1 := iok (gives := gives) [] (okCons Iabbr_good_ok okNil) 6 follows Tryz.func131 (by kernel_rfl) (fun x => by kernel_rfl) (Eabbr_Right_1 Xabbr_good)

/- strings.indexFunc -/
abbrev Tstrings_indexFunc : Type := ByteArray → Bool → (Int → Prop) → Prop
def Lstrings_indexFunc_0 (xabbr_Right_1 : Tabbr_Right_1) (K : Int → Prop) : (Q12 → Prop) → Q12 → Prop := fun k2 x3 =>
 (if x3.2.1.2 < ByteArray.size x3.2.1.1 then
 xabbr_Right_1 (↑(Prod.fst (Go.Utf8.decode x3.2.1.1 x3.2.1.2)) : Int) (fun r4 =>
 (if (r4 == x3.1.2.1) then
 K (↑(x3.2.1.2) : Int)
 else
 k2 ((((), ()), x3.1.2.1, x3.1.2.2.1, (), ()), (x3.2.1.1, x3.2.1.2 + Prod.snd (Go.Utf8.decode x3.2.1.1 x3.2.1.2)), ())))
 else
 K (-1))
def Lstrings_indexFunc_0p : Lp := ⟨1094, [.trim 1094], pT13, pH14, 0⟩
def Ystrings_indexFunc (xabbr_Right_1 : Tabbr_Right_1) (a0 : ByteArray) (a1 : Bool) (K : Int → Prop) : Prop :=
 lp (Lstrings_indexFunc_0 xabbr_Right_1 K) ((((), ()), a1, 0, (), ()), (a0, (0 : Nat)), ())
def Xstrings_indexFunc : Tstrings_indexFunc := Ystrings_indexFunc Xabbr_Right_1
def Jstrings_indexFunc (X : Tstrings_indexFunc) : Inst := mkI 141 pL15 .nil pL16 .nil X
def Istrings_indexFunc : Inst := Jstrings_indexFunc Xstrings_indexFunc
theorem Estrings_indexFunc (xabbr_Right_1 : Tabbr_Right_1) : EqF Tryz.prog 21 gives Tryz.f141 [Jabbr_Right_1 xabbr_Right_1] [Lstrings_indexFunc_0p] (Jstrings_indexFunc (Ystrings_indexFunc xabbr_Right_1)) := fun x y K => by kernel_rfl
theorem Istrings_indexFunc_ok : InstOk Tryz.prog G.1 Istrings_indexFunc := iok (gives := gives) [Lstrings_indexFunc_0p] (okCons Iabbr_Right_1_ok okNil) 21 follows Tryz.func141 (by kernel_rfl) (fun x => by kernel_rfl) (Estrings_indexFunc Xabbr_Right_1)

/- strings.IndexFunc -/
abbrev Tstrings_IndexFunc : Type := ByteArray → (Int → Prop) → Prop
def Ystrings_IndexFunc (xstrings_indexFunc : Tstrings_indexFunc) (a0 : ByteArray) (K : Int → Prop) : Prop :=
 xstrings_indexFunc a0 true (fun r1 =>
 K r1)
def Xstrings_IndexFunc : Tstrings_IndexFunc := Ystrings_IndexFunc Xstrings_indexFunc
def Jstrings_IndexFunc (X : Tstrings_IndexFunc) : Inst := mkI 119 pL17 .nil pL16 .nil X
def Istrings_IndexFunc : Inst := Jstrings_IndexFunc Xstrings_IndexFunc
theorem Estrings_IndexFunc (xstrings_indexFunc : Tstrings_indexFunc) : EqF Tryz.prog 8 gives Tryz.f119 [Jstrings_indexFunc xstrings_indexFunc] [] (Jstrings_IndexFunc (Ystrings_IndexFunc xstrings_indexFunc)) := fun x y K => by kernel_rfl
theorem Istrings_IndexFunc_ok : InstOk Tryz.prog G.1 Istrings_IndexFunc := iok (gives := gives) [] (okCons Istrings_indexFunc_ok okNil) 8 follows Tryz.func119 (by kernel_rfl) (fun x => by kernel_rfl) (Estrings_IndexFunc Xstrings_indexFunc)

/- strings.ContainsFunc -/
abbrev Tstrings_ContainsFunc : Type := ByteArray → (Bool → Prop) → Prop
def Ystrings_ContainsFunc (xstrings_IndexFunc : Tstrings_IndexFunc) (a0 : ByteArray) (K : Bool → Prop) : Prop :=
 xstrings_IndexFunc a0 (fun r1 =>
 K (decide (r1 ≥ 0)))
def Xstrings_ContainsFunc : Tstrings_ContainsFunc := Ystrings_ContainsFunc Xstrings_IndexFunc
def Jstrings_ContainsFunc (X : Tstrings_ContainsFunc) : Inst := mkI 133 pL17 .nil pL11 .nil X
def Istrings_ContainsFunc : Inst := Jstrings_ContainsFunc Xstrings_ContainsFunc
theorem Estrings_ContainsFunc (xstrings_IndexFunc : Tstrings_IndexFunc) : EqF Tryz.prog 9 gives Tryz.f133 [Jstrings_IndexFunc xstrings_IndexFunc] [] (Jstrings_ContainsFunc (Ystrings_ContainsFunc xstrings_IndexFunc)) := fun x y K => by kernel_rfl
theorem Istrings_ContainsFunc_ok : InstOk Tryz.prog G.1 Istrings_ContainsFunc := iok (gives := gives) [] (okCons Istrings_IndexFunc_ok okNil) 9 follows Tryz.func133 (by kernel_rfl) (fun x => by kernel_rfl) (Estrings_ContainsFunc Xstrings_IndexFunc)

/- epact/abbr.Right -/
abbrev Tabbr_Right : Type := ByteArray → (Bool → Prop) → Prop
def Yabbr_Right (xstrings_ContainsFunc : Tstrings_ContainsFunc) (a0 : ByteArray) (K : Bool → Prop) : Prop :=
 (if decide ((↑(ByteArray.size a0) : Int) ≥ 3) then
 (if decide ((↑(ByteArray.size a0) : Int) ≤ 16) then
 xstrings_ContainsFunc a0 (fun r1 =>
 K !r1)
 else
 K false)
 else
 K false)
def Xabbr_Right : Tabbr_Right := Yabbr_Right Xstrings_ContainsFunc
def Jabbr_Right (X : Tabbr_Right) : Inst := mkI 102 pL18 .nil pL11 .nil X
def Iabbr_Right : Inst := Jabbr_Right Xabbr_Right
theorem Eabbr_Right (xstrings_ContainsFunc : Tstrings_ContainsFunc) : EqF Tryz.prog 18 gives Tryz.f102 [Jstrings_ContainsFunc xstrings_ContainsFunc] [] (Jabbr_Right (Yabbr_Right xstrings_ContainsFunc)) := fun x y K => by kernel_rfl
theorem Iabbr_Right_ok : InstOk Tryz.prog G.1 Iabbr_Right := iok (gives := gives) [] (okCons Istrings_ContainsFunc_ok okNil) 18 follows Tryz.func102 (by kernel_rfl) (fun x => by kernel_rfl) (Eabbr_Right Xstrings_ContainsFunc)

/- epact/abbr.Pool -/
abbrev Tabbr_Pool : Type := (List Eng.V) → (ByteArray → Bool → (List Eng.V) → Bool → Bool → Prop) → Prop
def Labbr_Pool_0 (xabbr_Right : Tabbr_Right) (K : ByteArray → Bool → (List Eng.V) → Bool → Bool → Prop) : (Q19 → Prop) → Q19 → Prop := fun k1 x2 =>
 (if decide (x2.1.2.2.2.2.2.2.1 < x2.1.2.2.2.2.2.1) then
 (if 0 ≤ x2.1.2.2.2.2.2.2.1 ∧ x2.1.2.2.2.2.2.2.1 < (↑(List.length x2.1.2.2.2.2.1) : Int) then
 (Eng.asStr (Eng.getC x2.1.2.2.2.2.1 (Int.toNat x2.1.2.2.2.2.2.2.1) (0 : Nat)) False fun t3 =>
 xabbr_Right t3 (fun r4 =>
 (if (!r4) then
 K (ByteArray.mk #[]) false [] true true
 else
 (Eng.asMpI IntKind.i64 (Eng.mpGet t3 x2.2.1) False fun n5 n6 =>
 (if (!n6) then
 (if Option.isSome (Eng.mpGet t3 x2.2.1) then
 (if (↑(ByteArray.size t3 + (1 : Nat)) : Int) > 9223372036854775807 then
 False
 else
 (if (↑(ByteArray.size x2.1.1 + ByteArray.size (t3 ++ ByteArray.mk #[(0 : UInt8)])) : Int) > 9223372036854775807 then
 False
 else
 (lt (x2.1.1 ++ (t3 ++ ByteArray.mk #[(0 : UInt8)])) fun v7 =>
 (if Eng.roomOk (List.length x2.2.2.1 + List.length [Eng.V.c (Value.int IntKind.i64 (↑(ByteArray.size x2.1.1) : Int))]) (8 : Nat) then
 k1 ((v7, (), x2.1.2.2.1, (), x2.1.2.2.2.2.1, x2.1.2.2.2.2.2.1, w64 (x2.1.2.2.2.2.2.2.1 + 1), ()), Eng.mpPut t3 (Eng.V.c (Value.int IntKind.i64 (↑(ByteArray.size x2.1.1) : Int))) x2.2.1, x2.2.2.1 ++ [Eng.V.c (Value.int IntKind.i64 (↑(ByteArray.size x2.1.1) : Int))], ())
 else
 False))))
 else
 False)
 else
 (if Eng.roomOk (List.length x2.2.2.1 + List.length [Eng.V.c (Value.int IntKind.i64 n5)]) (8 : Nat) then
 k1 ((x2.1.1, (), x2.1.2.2.1, (), x2.1.2.2.2.2.1, x2.1.2.2.2.2.2.1, w64 (x2.1.2.2.2.2.2.2.1 + 1), ()), x2.2.1, x2.2.2.1 ++ [Eng.V.c (Value.int IntKind.i64 n5)], ())
 else
 False))))))
 else
 False)
 else
 (if decide ((↑(ByteArray.size x2.1.1) : Int) > 256) then
 K (ByteArray.mk #[]) false [] true true
 else
 K x2.1.1 true x2.2.2.1 true false))
def Labbr_Pool_0p : Lp := ⟨14396, [.trim 14396, .fat 3 1 816, .trim 14396], pT20, pH21, 0⟩
def Yabbr_Pool (xabbr_Right : Tabbr_Right) (a0 : (List Eng.V)) (K : ByteArray → Bool → (List Eng.V) → Bool → Bool → Prop) : Prop :=
 lp (Labbr_Pool_0 xabbr_Right K) ((ByteArray.mk #[], (), false, (), a0, (↑(List.length a0) : Int), 0, ()), [], [], ())
def Xabbr_Pool : Tabbr_Pool := Yabbr_Pool Xabbr_Right
def Jabbr_Pool (X : Tabbr_Pool) : Inst := mkI 96 pL22 .nil pL23 pH24 X
def Iabbr_Pool : Inst := Jabbr_Pool Xabbr_Pool
theorem Eabbr_Pool (xabbr_Right : Tabbr_Right) : EqF Tryz.prog 47 gives Tryz.f96 [Jabbr_Right xabbr_Right] [Labbr_Pool_0p] (Jabbr_Pool (Yabbr_Pool xabbr_Right)) := fun x y K => by kernel_rfl
theorem Iabbr_Pool_ok : InstOk Tryz.prog G.1 Iabbr_Pool := iok (gives := gives) [Labbr_Pool_0p] (okCons Iabbr_Right_ok okNil) 47 follows Tryz.func96 (by kernel_rfl) (fun x => by kernel_rfl) (Eabbr_Pool Xabbr_Right)

/- epact/block.pool -/
abbrev Tblock_pool : Type := Q5 → (ByteArray → Bool → (List Eng.V) → Bool → Bool → Prop) → Prop
def Lblock_pool_0 (xabbr_Pool : Tabbr_Pool) (K : ByteArray → Bool → (List Eng.V) → Bool → Bool → Prop) : (Q25 → Prop) → Q25 → Prop := fun k1 x2 =>
 (if decide (x2.1.2.2.2.2.2.2.1 < x2.1.2.2.2.2.2.1) then
 (if 0 ≤ x2.1.2.2.2.2.2.2.1 ∧ x2.1.2.2.2.2.2.2.1 < (↑(List.length x2.1.2.2.2.2.1) : Int) then
 (Eng.asInt IntKind.i64 (Eng.getC x2.1.2.2.2.2.1 (Int.toNat x2.1.2.2.2.2.2.2.1) (0 : Nat)) False fun n3 =>
 (Eng.asBool (Eng.getC x2.1.2.2.2.2.1 (Int.toNat x2.1.2.2.2.2.2.2.1) (1 : Nat)) False fun b4 =>
 (Eng.asStr (Eng.getC x2.1.2.2.2.2.1 (Int.toNat x2.1.2.2.2.2.2.2.1) (2 : Nat)) False fun t5 =>
 (if Eng.roomOk (List.length x2.2.1 + List.length [Eng.V.c (Value.string t5)]) (16 : Nat) then
 k1 ((x2.1.1, (), x2.1.2.2.1, (), x2.1.2.2.2.2.1, x2.1.2.2.2.2.2.1, w64 (x2.1.2.2.2.2.2.2.1 + 1), ()), x2.2.1 ++ [Eng.V.c (Value.string t5)], ())
 else
 False))))
 else
 False)
 else
 xabbr_Pool x2.2.1 (fun r6 r7 r8 r9 r10 =>
 K r6 r7 r8 r9 r10))
def Lblock_pool_0p : Lp := ⟨3644, [.trim 3644, .fat 5 1 480, .trim 3644], pT26, pH27, 0⟩
def Yblock_pool (xabbr_Pool : Tabbr_Pool) (a0 : Q5) (K : ByteArray → Bool → (List Eng.V) → Bool → Bool → Prop) : Prop :=
 lp (Lblock_pool_0 xabbr_Pool K) ((ByteArray.mk #[], (), false, (), a0.1, (↑(List.length a0.1) : Int), 0, ()), [], ())
def Xblock_pool : Tblock_pool := Yblock_pool Xabbr_Pool
def Jblock_pool (X : Tblock_pool) : Inst := mkI 61 pL7 .nil pL23 pH24 X
def Iblock_pool : Inst := Jblock_pool Xblock_pool
theorem Eblock_pool (xabbr_Pool : Tabbr_Pool) : EqF Tryz.prog 26 gives Tryz.f61 [Jabbr_Pool xabbr_Pool] [Lblock_pool_0p] (Jblock_pool (Yblock_pool xabbr_Pool)) := fun x y K => by kernel_rfl
theorem Iblock_pool_ok : InstOk Tryz.prog G.1 Iblock_pool := iok (gives := gives) [Lblock_pool_0p] (okCons Iabbr_Pool_ok okNil) 26 follows Tryz.func61 (by kernel_rfl) (fun x => by kernel_rfl) (Eblock_pool Xabbr_Pool)

/- epact/head.within -/
abbrev Thead_within : Type := Int → Int → Int → (Bool → Prop) → Prop
def Yhead_within (a0 : Int) (a1 : Int) (a2 : Int) (K : Bool → Prop) : Prop :=
 (if decide (a0 ≥ a1) then
 K (decide (a0 ≤ a2))
 else
 K false)
def Xhead_within : Thead_within := Yhead_within
def Jhead_within (X : Thead_within) : Inst := mkI 98 pL28 .nil pL11 .nil X
def Ihead_within : Inst := Jhead_within Xhead_within
theorem Ehead_within : EqF Tryz.prog 15 gives Tryz.f98 [] [] (Jhead_within (Yhead_within)) := fun x y K => by kernel_rfl
theorem Ihead_within_ok : InstOk Tryz.prog G.1 Ihead_within := iok (gives := gives) [] okNil 15 follows Tryz.func98 (by kernel_rfl) (fun x => by kernel_rfl) (Ehead_within)

/- epact/head.Right -/
abbrev Thead_Right : Type := Q29 → (Bool → Prop) → Prop
def Yhead_Right (xhead_within : Thead_within) (a0 : Q29) (K : Bool → Prop) : Prop :=
 xhead_within a0.2.2.2.1 0 201 (fun r1 =>
 (if r1 then
 xhead_within a0.2.2.2.2.1 0 2000 (fun r2 =>
 (if r2 then
 xhead_within a0.2.2.2.2.2.1 1 64 (fun r3 =>
 (if r3 then
 xhead_within a0.2.2.2.2.2.2.1 1 256 (fun r4 =>
 (if (a0.2.1 == 0) then
 (if (a0.2.2.1 == 0) then
 (if r4 then
 xhead_within a0.1 1 4 (fun r5 =>
 K r5)
 else
 K false)
 else
 (if r4 then
 (if (a0.2.2.1 == a0.2.2.2.2.2.1) then
 xhead_within a0.1 1 4 (fun r6 =>
 K r6)
 else
 K false)
 else
 K false))
 else
 (if (a0.2.1 == a0.2.2.2.2.2.1) then
 (if (a0.2.2.1 == 0) then
 (if r4 then
 xhead_within a0.1 1 4 (fun r7 =>
 K r7)
 else
 K false)
 else
 (if r4 then
 (if (a0.2.2.1 == a0.2.2.2.2.2.1) then
 xhead_within a0.1 1 4 (fun r8 =>
 K r8)
 else
 K false)
 else
 K false))
 else
 (if r4 then
 K false
 else
 K false))))
 else
 (if (a0.2.1 == 0) then
 (if (a0.2.2.1 == 0) then
 K false
 else
 K false)
 else
 (if (a0.2.1 == a0.2.2.2.2.2.1) then
 (if (a0.2.2.1 == 0) then
 K false
 else
 K false)
 else
 K false))))
 else
 (if (a0.2.1 == 0) then
 (if (a0.2.2.1 == 0) then
 K false
 else
 K false)
 else
 (if (a0.2.1 == a0.2.2.2.2.2.1) then
 (if (a0.2.2.1 == 0) then
 K false
 else
 K false)
 else
 K false))))
 else
 (if (a0.2.1 == 0) then
 (if (a0.2.2.1 == 0) then
 K false
 else
 K false)
 else
 (if (a0.2.1 == a0.2.2.2.2.2.1) then
 (if (a0.2.2.1 == 0) then
 K false
 else
 K false)
 else
 K false))))
def Xhead_Right : Thead_Right := Yhead_Right Xhead_within
def Jhead_Right (X : Thead_Right) : Inst := mkI 64 pL30 .nil pL11 .nil X
def Ihead_Right : Inst := Jhead_Right Xhead_Right
theorem Ehead_Right (xhead_within : Thead_within) : EqF Tryz.prog 54 gives Tryz.f64 [Jhead_within xhead_within] [] (Jhead_Right (Yhead_Right xhead_within)) := fun x y K => by kernel_rfl
theorem Ihead_Right_ok : InstOk Tryz.prog G.1 Ihead_Right := iok (gives := gives) [] (okCons Ihead_within_ok okNil) 54 follows Tryz.func64 (by kernel_rfl) (fun x => by kernel_rfl) (Ehead_Right Xhead_within)

/- epact/block.Count -/
abbrev Tblock_Count : Type := Q5 → (Q29 → Bool → Prop) → Prop
def Yblock_Count (xblock_pool : Tblock_pool) (xhead_Right : Thead_Right) (a0 : Q5) (K : Q29 → Bool → Prop) : Prop :=
 xblock_pool a0 (fun r1 r2 r3 r4 r5 =>
 (if (!r2) then
 K (0, 0, 0, 0, 0, 0, 0, ()) false
 else
 xhead_Right (a0.2.2.2.2.1, 0, 0, (↑(List.length a0.2.2.1) : Int), (↑(List.length a0.2.1) : Int), (↑(List.length a0.1) : Int), (↑(ByteArray.size r1) : Int), ()) (fun r6 =>
 (if (!r6) then
 K (0, 0, 0, 0, 0, 0, 0, ()) false
 else
 K (a0.2.2.2.2.1, 0, 0, (↑(List.length a0.2.2.1) : Int), (↑(List.length a0.2.1) : Int), (↑(List.length a0.1) : Int), (↑(ByteArray.size r1) : Int), ()) true))))
def Xblock_Count : Tblock_Count := Yblock_Count Xblock_pool Xhead_Right
def Jblock_Count (X : Tblock_Count) : Inst := mkI 26 pL7 .nil pL31 .nil X
def Iblock_Count : Inst := Jblock_Count Xblock_Count
theorem Eblock_Count (xblock_pool : Tblock_pool) (xhead_Right : Thead_Right) : EqF Tryz.prog 37 gives Tryz.f26 [Jblock_pool xblock_pool, Jhead_Right xhead_Right] [] (Jblock_Count (Yblock_Count xblock_pool xhead_Right)) := fun x y K => by kernel_rfl
theorem Iblock_Count_ok : InstOk Tryz.prog G.1 Iblock_Count := iok (gives := gives) [] (okCons Iblock_pool_ok (okCons Ihead_Right_ok okNil)) 37 follows Tryz.func26 (by kernel_rfl) (fun x => by kernel_rfl) (Eblock_Count Xblock_pool Xhead_Right)

/- epact/num.Sub -/
abbrev Tnum_Sub : Type := Int → Int → (Int → Bool → Prop) → Prop
def Ynum_Sub (a0 : Int) (a1 : Int) (K : Int → Bool → Prop) : Prop :=
 (lt (!decide (w64 (a0 - a1) < a0) == decide (a1 > 0)) fun v2 =>
 (if v2 then
 (if (a1 != 0) then
 K 0 false
 else
 K (w64 (a0 - a1)) true)
 else
 K (w64 (a0 - a1)) true))
def Xnum_Sub : Tnum_Sub := Ynum_Sub
def Jnum_Sub (X : Tnum_Sub) : Inst := mkI 105 pL32 .nil pL33 .nil X
def Inum_Sub : Inst := Jnum_Sub Xnum_Sub
theorem Enum_Sub : EqF Tryz.prog 21 gives Tryz.f105 [] [] (Jnum_Sub (Ynum_Sub)) := fun x y K => by kernel_rfl
theorem Inum_Sub_ok : InstOk Tryz.prog G.1 Inum_Sub := iok (gives := gives) [] okNil 21 follows Tryz.func105 (by kernel_rfl) (fun x => by kernel_rfl) (Enum_Sub)

/- epact/record.Check -/
abbrev Trecord_Check : Type := (List Eng.V) → (Int → Int → Prop) → Prop
def Lrecord_Check_0 (xnum_Sub : Tnum_Sub) (K : Int → Int → Prop) : (Q34 → Prop) → Q34 → Prop := fun k1 x2 =>
 (if decide (x2.1.2.2.2.2.2.2.1 < x2.1.2.2.2.2.2.1) then
 (if 0 ≤ x2.1.2.2.2.2.2.2.1 ∧ x2.1.2.2.2.2.2.2.1 < (↑(List.length x2.1.2.2.2.2.1) : Int) then
 (Eng.asInt IntKind.i64 (Eng.getC x2.1.2.2.2.2.1 (Int.toNat x2.1.2.2.2.2.2.2.1) (0 : Nat)) False fun n3 =>
 (Eng.asInt IntKind.i64 (Eng.getC x2.1.2.2.2.2.1 (Int.toNat x2.1.2.2.2.2.2.2.1) (1 : Nat)) False fun n4 =>
 xnum_Sub n4 x2.2.1.2.1 (fun r5 r6 =>
 (if r6 then
 (if (r5 == 0) then
 (if (x2.1.2.2.2.2.2.2.1 == w64 ((↑(List.length x2.1.1) : Int) - 1)) then
 (if decide (x2.1.2.2.2.2.2.2.1 > 200) then
 K x2.1.2.2.2.2.2.2.1 8
 else
 (if decide (n3 < 0) then
 K x2.1.2.2.2.2.2.2.1 9
 else
 (if (!x2.1.2.2.2.2.2.2.1 == w64 ((↑(List.length x2.1.1) : Int) - 1)) then
 (if (!r6) then
 K x2.1.2.2.2.2.2.2.1 6
 else
 (if (r5 != 1) then
 (if (r5 != (-1)) then
 K x2.1.2.2.2.2.2.2.1 6
 else
 (if decide (x2.1.2.2.2.2.2.2.1 > 0) then
 (if decide (w64 (n3 - x2.2.1.1) < 0) then
 K x2.1.2.2.2.2.2.2.1 7
 else
 k1 ((x2.1.1, x2.1.2.1, x2.1.2.2.1, (), x2.1.2.2.2.2.1, x2.1.2.2.2.2.2.1, w64 (x2.1.2.2.2.2.2.2.1 + 1), ()), (n3, n4, ()), ()))
 else
 k1 ((x2.1.1, x2.1.2.1, x2.1.2.2.1, (), x2.1.2.2.2.2.1, x2.1.2.2.2.2.2.1, w64 (x2.1.2.2.2.2.2.2.1 + 1), ()), (n3, n4, ()), ())))
 else
 (if decide (x2.1.2.2.2.2.2.2.1 > 0) then
 (if decide (w64 (n3 - x2.2.1.1) < 0) then
 K x2.1.2.2.2.2.2.2.1 7
 else
 k1 ((x2.1.1, x2.1.2.1, x2.1.2.2.1, (), x2.1.2.2.2.2.1, x2.1.2.2.2.2.2.1, w64 (x2.1.2.2.2.2.2.2.1 + 1), ()), (n3, n4, ()), ()))
 else
 k1 ((x2.1.1, x2.1.2.1, x2.1.2.2.1, (), x2.1.2.2.2.2.1, x2.1.2.2.2.2.2.1, w64 (x2.1.2.2.2.2.2.2.1 + 1), ()), (n3, n4, ()), ()))))
 else
 (if decide (x2.1.2.2.2.2.2.2.1 > 0) then
 (if decide (w64 (n3 - x2.2.1.1) < 0) then
 K x2.1.2.2.2.2.2.2.1 7
 else
 k1 ((x2.1.1, x2.1.2.1, x2.1.2.2.1, (), x2.1.2.2.2.2.1, x2.1.2.2.2.2.2.1, w64 (x2.1.2.2.2.2.2.2.1 + 1), ()), (n3, n4, ()), ()))
 else
 k1 ((x2.1.1, x2.1.2.1, x2.1.2.2.1, (), x2.1.2.2.2.2.1, x2.1.2.2.2.2.2.1, w64 (x2.1.2.2.2.2.2.2.1 + 1), ()), (n3, n4, ()), ())))))
 else
 (if decide (x2.1.2.2.2.2.2.2.1 > 200) then
 K x2.1.2.2.2.2.2.2.1 8
 else
 (if decide (n3 < 0) then
 K x2.1.2.2.2.2.2.2.1 9
 else
 (if (!x2.1.2.2.2.2.2.2.1 == w64 ((↑(List.length x2.1.1) : Int) - 1)) then
 (if (!r6) then
 K x2.1.2.2.2.2.2.2.1 6
 else
 (if (r5 != 1) then
 (if (r5 != (-1)) then
 K x2.1.2.2.2.2.2.2.1 6
 else
 (if decide (x2.1.2.2.2.2.2.2.1 > 0) then
 (if decide (w64 (n3 - x2.2.1.1) < 2419199) then
 K x2.1.2.2.2.2.2.2.1 7
 else
 k1 ((x2.1.1, x2.1.2.1, x2.1.2.2.1, (), x2.1.2.2.2.2.1, x2.1.2.2.2.2.2.1, w64 (x2.1.2.2.2.2.2.2.1 + 1), ()), (n3, n4, ()), ()))
 else
 k1 ((x2.1.1, x2.1.2.1, x2.1.2.2.1, (), x2.1.2.2.2.2.1, x2.1.2.2.2.2.2.1, w64 (x2.1.2.2.2.2.2.2.1 + 1), ()), (n3, n4, ()), ())))
 else
 (if decide (x2.1.2.2.2.2.2.2.1 > 0) then
 (if decide (w64 (n3 - x2.2.1.1) < 2419199) then
 K x2.1.2.2.2.2.2.2.1 7
 else
 k1 ((x2.1.1, x2.1.2.1, x2.1.2.2.1, (), x2.1.2.2.2.2.1, x2.1.2.2.2.2.2.1, w64 (x2.1.2.2.2.2.2.2.1 + 1), ()), (n3, n4, ()), ()))
 else
 k1 ((x2.1.1, x2.1.2.1, x2.1.2.2.1, (), x2.1.2.2.2.2.1, x2.1.2.2.2.2.2.1, w64 (x2.1.2.2.2.2.2.2.1 + 1), ()), (n3, n4, ()), ()))))
 else
 (if decide (x2.1.2.2.2.2.2.2.1 > 0) then
 (if decide (w64 (n3 - x2.2.1.1) < 2419199) then
 K x2.1.2.2.2.2.2.2.1 7
 else
 k1 ((x2.1.1, x2.1.2.1, x2.1.2.2.1, (), x2.1.2.2.2.2.1, x2.1.2.2.2.2.2.1, w64 (x2.1.2.2.2.2.2.2.1 + 1), ()), (n3, n4, ()), ()))
 else
 k1 ((x2.1.1, x2.1.2.1, x2.1.2.2.1, (), x2.1.2.2.2.2.1, x2.1.2.2.2.2.2.1, w64 (x2.1.2.2.2.2.2.2.1 + 1), ()), (n3, n4, ()), ()))))))
 else
 (if decide (x2.1.2.2.2.2.2.2.1 > 200) then
 K x2.1.2.2.2.2.2.2.1 8
 else
 (if decide (n3 < 0) then
 K x2.1.2.2.2.2.2.2.1 9
 else
 (if (!r6) then
 K x2.1.2.2.2.2.2.2.1 6
 else
 (if (r5 != 1) then
 (if (r5 != (-1)) then
 K x2.1.2.2.2.2.2.2.1 6
 else
 (if decide (x2.1.2.2.2.2.2.2.1 > 0) then
 (if decide (w64 (n3 - x2.2.1.1) < 2419199) then
 K x2.1.2.2.2.2.2.2.1 7
 else
 k1 ((x2.1.1, x2.1.2.1, x2.1.2.2.1, (), x2.1.2.2.2.2.1, x2.1.2.2.2.2.2.1, w64 (x2.1.2.2.2.2.2.2.1 + 1), ()), (n3, n4, ()), ()))
 else
 k1 ((x2.1.1, x2.1.2.1, x2.1.2.2.1, (), x2.1.2.2.2.2.1, x2.1.2.2.2.2.2.1, w64 (x2.1.2.2.2.2.2.2.1 + 1), ()), (n3, n4, ()), ())))
 else
 (if decide (x2.1.2.2.2.2.2.2.1 > 0) then
 (if decide (w64 (n3 - x2.2.1.1) < 2419199) then
 K x2.1.2.2.2.2.2.2.1 7
 else
 k1 ((x2.1.1, x2.1.2.1, x2.1.2.2.1, (), x2.1.2.2.2.2.1, x2.1.2.2.2.2.2.1, w64 (x2.1.2.2.2.2.2.2.1 + 1), ()), (n3, n4, ()), ()))
 else
 k1 ((x2.1.1, x2.1.2.1, x2.1.2.2.1, (), x2.1.2.2.2.2.1, x2.1.2.2.2.2.2.1, w64 (x2.1.2.2.2.2.2.2.1 + 1), ()), (n3, n4, ()), ())))))))
 else
 (if decide (x2.1.2.2.2.2.2.2.1 > 200) then
 K x2.1.2.2.2.2.2.2.1 8
 else
 (if decide (n3 < 0) then
 K x2.1.2.2.2.2.2.2.1 9
 else
 (if (!r6) then
 K x2.1.2.2.2.2.2.2.1 6
 else
 (if (r5 != 1) then
 (if (r5 != (-1)) then
 K x2.1.2.2.2.2.2.2.1 6
 else
 (if decide (x2.1.2.2.2.2.2.2.1 > 0) then
 (if decide (w64 (n3 - x2.2.1.1) < 2419199) then
 K x2.1.2.2.2.2.2.2.1 7
 else
 k1 ((x2.1.1, x2.1.2.1, x2.1.2.2.1, (), x2.1.2.2.2.2.1, x2.1.2.2.2.2.2.1, w64 (x2.1.2.2.2.2.2.2.1 + 1), ()), (n3, n4, ()), ()))
 else
 k1 ((x2.1.1, x2.1.2.1, x2.1.2.2.1, (), x2.1.2.2.2.2.1, x2.1.2.2.2.2.2.1, w64 (x2.1.2.2.2.2.2.2.1 + 1), ()), (n3, n4, ()), ())))
 else
 (if decide (x2.1.2.2.2.2.2.2.1 > 0) then
 (if decide (w64 (n3 - x2.2.1.1) < 2419199) then
 K x2.1.2.2.2.2.2.2.1 7
 else
 k1 ((x2.1.1, x2.1.2.1, x2.1.2.2.1, (), x2.1.2.2.2.2.1, x2.1.2.2.2.2.2.1, w64 (x2.1.2.2.2.2.2.2.1 + 1), ()), (n3, n4, ()), ()))
 else
 k1 ((x2.1.1, x2.1.2.1, x2.1.2.2.1, (), x2.1.2.2.2.2.1, x2.1.2.2.2.2.2.1, w64 (x2.1.2.2.2.2.2.2.1 + 1), ()), (n3, n4, ()), ()))))))))))
 else
 False)
 else
 K (↑(List.length x2.1.1) : Int) 0)
def Lrecord_Check_0p : Lp := ⟨28701, [.trim 28701], pT35, pH36, 0⟩
def Yrecord_Check (xnum_Sub : Tnum_Sub) (a0 : (List Eng.V)) (K : Int → Int → Prop) : Prop :=
 lp (Lrecord_Check_0 xnum_Sub K) ((a0, 0, 0, (), a0, (↑(List.length a0) : Int), 0, ()), ((-2419199), 0, ()), ())
def Xrecord_Check : Trecord_Check := Yrecord_Check Xnum_Sub
def Jrecord_Check (X : Trecord_Check) : Inst := mkI 72 pL3 .nil pL32 .nil X
def Irecord_Check : Inst := Jrecord_Check Xrecord_Check
theorem Erecord_Check (xnum_Sub : Tnum_Sub) : EqF Tryz.prog 82 gives Tryz.f72 [Jnum_Sub xnum_Sub] [Lrecord_Check_0p] (Jrecord_Check (Yrecord_Check xnum_Sub)) := fun x y K => by kernel_rfl
theorem Irecord_Check_ok : InstOk Tryz.prog G.1 Irecord_Check := iok (gives := gives) [Lrecord_Check_0p] (okCons Inum_Sub_ok okNil) 82 follows Tryz.func72 (by kernel_rfl) (fun x => by kernel_rfl) (Erecord_Check Xnum_Sub)

/- epact/record.Right -/
abbrev Trecord_Right : Type := (List Eng.V) → (Bool → Prop) → Prop
def Yrecord_Right (xrecord_Check : Trecord_Check) (a0 : (List Eng.V)) (K : Bool → Prop) : Prop :=
 xrecord_Check a0 (fun r1 r2 =>
 K (r2 == 0))
def Xrecord_Right : Trecord_Right := Yrecord_Right Xrecord_Check
def Jrecord_Right (X : Trecord_Right) : Inst := mkI 28 pL3 .nil pL11 .nil X
def Irecord_Right : Inst := Jrecord_Right Xrecord_Right
theorem Erecord_Right (xrecord_Check : Trecord_Check) : EqF Tryz.prog 12 gives Tryz.f28 [Jrecord_Check xrecord_Check] [] (Jrecord_Right (Yrecord_Right xrecord_Check)) := fun x y K => by kernel_rfl
theorem Irecord_Right_ok : InstOk Tryz.prog G.1 Irecord_Right := iok (gives := gives) [] (okCons Irecord_Check_ok okNil) 12 follows Tryz.func28 (by kernel_rfl) (fun x => by kernel_rfl) (Erecord_Right Xrecord_Check)

/- epact/record.leaps -/
abbrev Trecord_leaps : Type := (List Eng.V) → ((List Eng.V) → Bool → Bool → Prop) → Prop
def Yrecord_leaps (a0 : (List Eng.V)) (K : (List Eng.V) → Bool → Bool → Prop) : Prop :=
 (if (w64 ((↑(List.length a0) : Int) - 1) == 0) then
 (if (0 :Int) ≤ 0 ∧ 0 < (↑(List.length a0) : Int) then
 (Eng.asInt IntKind.i64 (Eng.getC a0 (0 : Nat) (1 : Nat)) False fun n1 =>
 (if (n1 == 0) then
 (if (n1 == 0) then
 (if 0 ≤ w64 ((↑(List.length a0) : Int) - 1) ∧ w64 ((↑(List.length a0) : Int) - 1) ≤ (↑(List.length a0) : Int) then
 (if (0 :Int) ≤ 0 ∧ 0 ≤ w64 ((↑(List.length a0) : Int) - 1) then
 K (Eng.cutL a0 (0 : Nat) (Int.toNat (w64 ((↑(List.length a0) : Int) - 1)) - (0 : Nat))) false true
 else
 False)
 else
 False)
 else
 K a0 false true)
 else
 (if decide (w64 ((↑(List.length a0) : Int) - 1) > 0) then
 (if 0 ≤ w64 ((↑(List.length a0) : Int) - 1) ∧ w64 ((↑(List.length a0) : Int) - 1) < (↑(List.length a0) : Int) then
 (Eng.asInt IntKind.i64 (Eng.getC a0 (Int.toNat (w64 ((↑(List.length a0) : Int) - 1))) (1 : Nat)) False fun n2 =>
 (lt (w64 (w64 ((↑(List.length a0) : Int) - 1) - 1)) fun v3 =>
 (if 0 ≤ v3 ∧ v3 < (↑(List.length a0) : Int) then
 (Eng.asInt IntKind.i64 (Eng.getC a0 (Int.toNat v3) (1 : Nat)) False fun n4 =>
 (if (n2 == n4) then
 (if 0 ≤ w64 ((↑(List.length a0) : Int) - 1) ∧ w64 ((↑(List.length a0) : Int) - 1) ≤ (↑(List.length a0) : Int) then
 (if (0 :Int) ≤ 0 ∧ 0 ≤ w64 ((↑(List.length a0) : Int) - 1) then
 K (Eng.cutL a0 (0 : Nat) (Int.toNat (w64 ((↑(List.length a0) : Int) - 1)) - (0 : Nat))) false true
 else
 False)
 else
 False)
 else
 K a0 false true))
 else
 False)))
 else
 False)
 else
 K a0 false true)))
 else
 False)
 else
 (if decide (w64 ((↑(List.length a0) : Int) - 1) > 0) then
 (if 0 ≤ w64 ((↑(List.length a0) : Int) - 1) ∧ w64 ((↑(List.length a0) : Int) - 1) < (↑(List.length a0) : Int) then
 (Eng.asInt IntKind.i64 (Eng.getC a0 (Int.toNat (w64 ((↑(List.length a0) : Int) - 1))) (1 : Nat)) False fun n5 =>
 (lt (w64 (w64 ((↑(List.length a0) : Int) - 1) - 1)) fun v6 =>
 (if 0 ≤ v6 ∧ v6 < (↑(List.length a0) : Int) then
 (Eng.asInt IntKind.i64 (Eng.getC a0 (Int.toNat v6) (1 : Nat)) False fun n7 =>
 (if (n5 == n7) then
 (if 0 ≤ w64 ((↑(List.length a0) : Int) - 1) ∧ w64 ((↑(List.length a0) : Int) - 1) ≤ (↑(List.length a0) : Int) then
 (if (0 :Int) ≤ 0 ∧ 0 ≤ w64 ((↑(List.length a0) : Int) - 1) then
 K (Eng.cutL a0 (0 : Nat) (Int.toNat (w64 ((↑(List.length a0) : Int) - 1)) - (0 : Nat))) false true
 else
 False)
 else
 False)
 else
 K a0 false true))
 else
 False)))
 else
 False)
 else
 K a0 false true))
def Xrecord_leaps : Trecord_leaps := Yrecord_leaps
def Jrecord_leaps (X : Trecord_leaps) : Inst := mkI 59 pL3 .nil pL1 pH4 X
def Irecord_leaps : Inst := Jrecord_leaps Xrecord_leaps
theorem Erecord_leaps : EqF Tryz.prog 37 gives Tryz.f59 [] [] (Jrecord_leaps (Yrecord_leaps)) := fun x y K => by kernel_rfl
theorem Irecord_leaps_ok : InstOk Tryz.prog G.1 Irecord_leaps := iok (gives := gives) [] okNil 37 follows Tryz.func59 (by kernel_rfl) (fun x => by kernel_rfl) (Erecord_leaps)

/- epact/record.Expiry -/
abbrev Trecord_Expiry : Type := (List Eng.V) → (Int → Bool → Prop) → Prop
def Yrecord_Expiry (xrecord_leaps : Trecord_leaps) (a0 : (List Eng.V)) (K : Int → Bool → Prop) : Prop :=
 xrecord_leaps a0 (fun r1 r2 r3 =>
 (if decide ((↑(List.length r1) : Int) < (↑(List.length a0) : Int)) then
 (if 0 ≤ (↑(List.length r1) : Int) ∧ (↑(List.length r1) : Int) < (↑(List.length a0) : Int) then
 (Eng.asInt IntKind.i64 (Eng.getC a0 (Int.toNat (↑(List.length r1) : Int)) (0 : Nat)) False fun n4 =>
 K n4 true)
 else
 False)
 else
 K 0 false))
def Xrecord_Expiry : Trecord_Expiry := Yrecord_Expiry Xrecord_leaps
def Jrecord_Expiry (X : Trecord_Expiry) : Inst := mkI 29 pL3 .nil pL33 .nil X
def Irecord_Expiry : Inst := Jrecord_Expiry Xrecord_Expiry
theorem Erecord_Expiry (xrecord_leaps : Trecord_leaps) : EqF Tryz.prog 17 gives Tryz.f29 [Jrecord_leaps xrecord_leaps] [] (Jrecord_Expiry (Yrecord_Expiry xrecord_leaps)) := fun x y K => by kernel_rfl
theorem Irecord_Expiry_ok : InstOk Tryz.prog G.1 Irecord_Expiry := iok (gives := gives) [] (okCons Irecord_leaps_ok okNil) 17 follows Tryz.func29 (by kernel_rfl) (fun x => by kernel_rfl) (Erecord_Expiry Xrecord_leaps)

/- epact/zone.Right$1 -/
abbrev Tzone_Right_1 : Type := Int → Q37 → (Bool → Prop) → Prop
def Yzone_Right_1 (a0 : Int) (a1 : Q37) (K : Bool → Prop) : Prop :=
 (if decide (a1.1 ≥ (-89999)) then
 K (decide (a1.1 ≤ 93599))
 else
 K false)
def Xzone_Right_1 : Tzone_Right_1 := Yzone_Right_1
def Jzone_Right_1 (X : Tzone_Right_1) : Inst := mkI 31 pL38 .nil pL11 .nil X
def Izone_Right_1 : Inst := Jzone_Right_1 Xzone_Right_1
theorem Ezone_Right_1 : EqF Tryz.prog 13 gives Tryz.f31 [] [] (Jzone_Right_1 (Yzone_Right_1)) := fun x y K => by kernel_rfl
theorem Izone_Right_1_ok : InstOk Tryz.prog G.1 Izone_Right_1 := iok (gives := gives) [] okNil 13 follows Tryz.func31 (by kernel_rfl) (fun x => by kernel_rfl) (Ezone_Right_1)

/- epact/zone.all[epact/api.Type] -/
abbrev Tzone_all_api_Type_ : Type := (List Eng.V) → (Bool → Prop) → Prop
def Lzone_all_api_Type__0 (xzone_Right_1 : Tzone_Right_1) (K : Bool → Prop) : (Q39 → Prop) → Q39 → Prop := fun k1 x2 =>
 (if decide (x2.1.2.2.2.2.1 < x2.1.2.2.2.1) then
 (if 0 ≤ x2.1.2.2.2.2.1 ∧ x2.1.2.2.2.2.1 < (↑(List.length x2.1.2.2.1) : Int) then
 (Eng.asInt IntKind.i64 (Eng.getC x2.1.2.2.1 (Int.toNat x2.1.2.2.2.2.1) (0 : Nat)) False fun n3 =>
 (Eng.asBool (Eng.getC x2.1.2.2.1 (Int.toNat x2.1.2.2.2.2.1) (1 : Nat)) False fun b4 =>
 (Eng.asStr (Eng.getC x2.1.2.2.1 (Int.toNat x2.1.2.2.2.2.1) (2 : Nat)) False fun t5 =>
 xzone_Right_1 x2.1.2.2.2.2.1 (n3, b4, t5, ()) (fun r6 =>
 (if (!r6) then
 K false
 else
 k1 ((((), ()), x2.1.2.1, x2.1.2.2.1, x2.1.2.2.2.1, w64 (x2.1.2.2.2.2.1 + 1), ()), ()))))))
 else
 False)
 else
 K true)
def Lzone_all_api_Type__0p : Lp := ⟨914, [.trim 914], pT40, .nil, 0⟩
def Yzone_all_api_Type_ (xzone_Right_1 : Tzone_Right_1) (a0 : (List Eng.V)) (K : Bool → Prop) : Prop :=
 lp (Lzone_all_api_Type__0 xzone_Right_1 K) ((((), ()), false, a0, (↑(List.length a0) : Int), 0, ()), ())
def Xzone_all_api_Type_ : Tzone_all_api_Type_ := Yzone_all_api_Type_ Xzone_Right_1
def Jzone_all_api_Type_ (X : Tzone_all_api_Type_) : Inst := mkI 30 pL41 .nil pL11 .nil X
def Izone_all_api_Type_ : Inst := Jzone_all_api_Type_ Xzone_all_api_Type_
theorem Ezone_all_api_Type_ (xzone_Right_1 : Tzone_Right_1) : EqF Tryz.prog 20 gives Tryz.f30 [Jzone_Right_1 xzone_Right_1] [Lzone_all_api_Type__0p] (Jzone_all_api_Type_ (Yzone_all_api_Type_ xzone_Right_1)) := fun x y K => by kernel_rfl
theorem Izone_all_api_Type__ok : InstOk Tryz.prog G.1 Izone_all_api_Type_ := iok (gives := gives) [Lzone_all_api_Type__0p] (okCons Izone_Right_1_ok okNil) 20 follows Tryz.func30 (by kernel_rfl) (fun x => by kernel_rfl) (Ezone_all_api_Type_ Xzone_Right_1)

/- epact/zone.Right$2 -/
abbrev Tzone_Right_2 : Type := Int → Q42 → (List Eng.V) → (List Eng.V) → (List Eng.V) → ByteArray → Int → (Bool → ByteArray → Int → (List Eng.V) → Bool → Bool → (List Eng.V) → Bool → Bool → (List Eng.V) → Bool → Bool → Prop) → Prop
def Yzone_Right_2 (a0 : Int) (a1 : Q42) (a2 : (List Eng.V)) (a3 : (List Eng.V)) (a4 : (List Eng.V)) (a5 : ByteArray) (a6 : Int) (K : Bool → ByteArray → Int → (List Eng.V) → Bool → Bool → (List Eng.V) → Bool → Bool → (List Eng.V) → Bool → Bool → Prop) : Prop :=
 (if decide (a1.2.1 ≥ 0) then
 (if decide (a1.2.1 < (↑(List.length a2) : Int)) then
 (if (a0 == 0) then
 K true a5 a6 a2 false true a3 false true a4 false true
 else
 (if 0 ≤ w64 (a0 - 1) ∧ w64 (a0 - 1) < (↑(List.length a3) : Int) then
 (Eng.asInt IntKind.i64 (Eng.getC a3 (Int.toNat (w64 (a0 - 1))) (0 : Nat)) False fun n7 =>
 K (decide (a1.1 > n7)) a5 a6 a2 false true a3 false true a4 false true)
 else
 False))
 else
 K false a5 a6 a2 false true a3 false true a4 false true)
 else
 K false a5 a6 a2 false true a3 false true a4 false true)
def Xzone_Right_2 : Tzone_Right_2 := Yzone_Right_2
def Jzone_Right_2 (X : Tzone_Right_2) : Inst := mkI 33 pL43 pH44 pL11 pH45 X
def Izone_Right_2 : Inst := Jzone_Right_2 Xzone_Right_2
theorem Ezone_Right_2 : EqF Tryz.prog 33 gives Tryz.f33 [] [] (Jzone_Right_2 (Yzone_Right_2)) := fun x y K => by kernel_rfl
theorem Izone_Right_2_ok : InstOk Tryz.prog G.1 Izone_Right_2 := iok (gives := gives) [] okNil 33 follows Tryz.func33 (by kernel_rfl) (fun x => by kernel_rfl) (Ezone_Right_2)

/- epact/zone.all[epact/api.Trans] -/
abbrev Tzone_all_api_Trans_ : Type := (List Eng.V) → (List Eng.V) → (List Eng.V) → (List Eng.V) → ByteArray → Int → (Bool → ByteArray → Int → (List Eng.V) → Bool → Bool → (List Eng.V) → Bool → Bool → (List Eng.V) → Bool → Bool → Prop) → Prop
def Lzone_all_api_Trans__0 (xzone_Right_2 : Tzone_Right_2) (K : Bool → ByteArray → Int → (List Eng.V) → Bool → Bool → (List Eng.V) → Bool → Bool → (List Eng.V) → Bool → Bool → Prop) (a1 : (List Eng.V)) (a2 : (List Eng.V)) (a3 : (List Eng.V)) (a4 : ByteArray) (a5 : Int) : (Q46 → Prop) → Q46 → Prop := fun k6 x7 =>
 (if decide (x7.1.2.2.2.2.1 < x7.1.2.2.2.1) then
 (if 0 ≤ x7.1.2.2.2.2.1 ∧ x7.1.2.2.2.2.1 < (↑(List.length x7.1.2.2.1) : Int) then
 (Eng.asInt IntKind.i64 (Eng.getC x7.1.2.2.1 (Int.toNat x7.1.2.2.2.2.1) (0 : Nat)) False fun n8 =>
 (Eng.asInt IntKind.i64 (Eng.getC x7.1.2.2.1 (Int.toNat x7.1.2.2.2.2.1) (1 : Nat)) False fun n9 =>
 xzone_Right_2 x7.1.2.2.2.2.1 (n8, n9, ()) x7.2.1.1 x7.2.1.2.1 x7.2.1.2.2.1 x7.2.1.2.2.2.1 x7.2.1.2.2.2.2.1 (fun r10 r11 r12 r13 r14 r15 r16 r17 r18 r19 r20 r21 =>
 (if (!r10) then
 K false r11 r12 r13 r14 r15 r16 r17 r18 r19 r20 r21
 else
 k6 ((((), (), ()), x7.1.2.1, x7.1.2.2.1, x7.1.2.2.2.1, w64 (x7.1.2.2.2.2.1 + 1), ()), (r13, r16, r19, r11, r12, ()), ())))))
 else
 False)
 else
 K true x7.2.1.2.2.2.1 x7.2.1.2.2.2.2.1 x7.2.1.1 false true x7.2.1.2.1 false true x7.2.1.2.2.1 false true)
def Lzone_all_api_Trans__0p : Lp := ⟨914, [.trim 914, .thin 336, .trim 914, .thin 337, .trim 914, .thin 338, .trim 914], pT47, pH44, 0⟩
def Yzone_all_api_Trans_ (xzone_Right_2 : Tzone_Right_2) (a0 : (List Eng.V)) (a1 : (List Eng.V)) (a2 : (List Eng.V)) (a3 : (List Eng.V)) (a4 : ByteArray) (a5 : Int) (K : Bool → ByteArray → Int → (List Eng.V) → Bool → Bool → (List Eng.V) → Bool → Bool → (List Eng.V) → Bool → Bool → Prop) : Prop :=
 lp (Lzone_all_api_Trans__0 xzone_Right_2 K a1 a2 a3 a4 a5) ((((), (), ()), false, a0, (↑(List.length a0) : Int), 0, ()), (a1, a2, a3, a4, a5, ()), ())
def Xzone_all_api_Trans_ : Tzone_all_api_Trans_ := Yzone_all_api_Trans_ Xzone_Right_2
def Jzone_all_api_Trans_ (X : Tzone_all_api_Trans_) : Inst := mkI 32 pL48 pH44 pL11 pH45 X
def Izone_all_api_Trans_ : Inst := Jzone_all_api_Trans_ Xzone_all_api_Trans_
theorem Ezone_all_api_Trans_ (xzone_Right_2 : Tzone_Right_2) : EqF Tryz.prog 20 gives Tryz.f32 [Jzone_Right_2 xzone_Right_2] [Lzone_all_api_Trans__0p] (Jzone_all_api_Trans_ (Yzone_all_api_Trans_ xzone_Right_2)) := fun x y K => by kernel_rfl
theorem Izone_all_api_Trans__ok : InstOk Tryz.prog G.1 Izone_all_api_Trans_ := iok (gives := gives) [Lzone_all_api_Trans__0p] (okCons Izone_Right_2_ok okNil) 20 follows Tryz.func32 (by kernel_rfl) (fun x => by kernel_rfl) (Ezone_all_api_Trans_ Xzone_Right_2)

/- internal/stringslite.HasPrefix -/
abbrev Tinternal_stringslite_HasPrefix : Type := ByteArray → ByteArray → (Bool → Prop) → Prop
def Yinternal_stringslite_HasPrefix (a0 : ByteArray) (a1 : ByteArray) (K : Bool → Prop) : Prop :=
 (if decide ((↑(ByteArray.size a0) : Int) ≥ (↑(ByteArray.size a1) : Int)) then
 (if 0 ≤ (↑(ByteArray.size a1) : Int) ∧ (↑(ByteArray.size a1) : Int) ≤ (↑(ByteArray.size a0) : Int) then
 K (ByteArray.toList (ByteArray.extract a0 (0 : Nat) (Int.toNat (↑(ByteArray.size a1) : Int))) == ByteArray.toList a1)
 else
 False)
 else
 K false)
def Xinternal_stringslite_HasPrefix : Tinternal_stringslite_HasPrefix := Yinternal_stringslite_HasPrefix
def Jinternal_stringslite_HasPrefix (X : Tinternal_stringslite_HasPrefix) : Inst := mkI 154 pL49 .nil pL11 .nil X
def Iinternal_stringslite_HasPrefix : Inst := Jinternal_stringslite_HasPrefix Xinternal_stringslite_HasPrefix
theorem Einternal_stringslite_HasPrefix : EqF Tryz.prog 18 gives Tryz.f154 [] [] (Jinternal_stringslite_HasPrefix (Yinternal_stringslite_HasPrefix)) := fun x y K => by kernel_rfl
theorem Iinternal_stringslite_HasPrefix_ok : InstOk Tryz.prog G.1 Iinternal_stringslite_HasPrefix := iok (gives := gives) [] okNil 18 follows Tryz.func154 (by kernel_rfl) (fun x => by kernel_rfl) (Einternal_stringslite_HasPrefix)

/- internal/stringslite.CutPrefix -/
abbrev Tinternal_stringslite_CutPrefix : Type := ByteArray → ByteArray → (ByteArray → Bool → Prop) → Prop
def Yinternal_stringslite_CutPrefix (xinternal_stringslite_HasPrefix : Tinternal_stringslite_HasPrefix) (a0 : ByteArray) (a1 : ByteArray) (K : ByteArray → Bool → Prop) : Prop :=
 xinternal_stringslite_HasPrefix a0 a1 (fun r2 =>
 (if (!r2) then
 K a0 false
 else
 (if 0 ≤ (↑(ByteArray.size a0) : Int) ∧ (↑(ByteArray.size a0) : Int) ≤ (↑(ByteArray.size a0) : Int) then
 (if 0 ≤ (↑(ByteArray.size a1) : Int) ∧ (↑(ByteArray.size a1) : Int) ≤ (↑(ByteArray.size a0) : Int) then
 K (ByteArray.extract a0 (Int.toNat (↑(ByteArray.size a1) : Int)) (Int.toNat (↑(ByteArray.size a0) : Int))) true
 else
 False)
 else
 False)))
def Xinternal_stringslite_CutPrefix : Tinternal_stringslite_CutPrefix := Yinternal_stringslite_CutPrefix Xinternal_stringslite_HasPrefix
def Jinternal_stringslite_CutPrefix (X : Tinternal_stringslite_CutPrefix) : Inst := mkI 140 pL49 .nil pL50 .nil X
def Iinternal_stringslite_CutPrefix : Inst := Jinternal_stringslite_CutPrefix Xinternal_stringslite_CutPrefix
theorem Einternal_stringslite_CutPrefix (xinternal_stringslite_HasPrefix : Tinternal_stringslite_HasPrefix) : EqF Tryz.prog 15 gives Tryz.f140 [Jinternal_stringslite_HasPrefix xinternal_stringslite_HasPrefix] [] (Jinternal_stringslite_CutPrefix (Yinternal_stringslite_CutPrefix xinternal_stringslite_HasPrefix)) := fun x y K => by kernel_rfl
theorem Iinternal_stringslite_CutPrefix_ok : InstOk Tryz.prog G.1 Iinternal_stringslite_CutPrefix := iok (gives := gives) [] (okCons Iinternal_stringslite_HasPrefix_ok okNil) 15 follows Tryz.func140 (by kernel_rfl) (fun x => by kernel_rfl) (Einternal_stringslite_CutPrefix Xinternal_stringslite_HasPrefix)

/- strings.CutPrefix -/
abbrev Tstrings_CutPrefix : Type := ByteArray → ByteArray → (ByteArray → Bool → Prop) → Prop
def Ystrings_CutPrefix (xinternal_stringslite_CutPrefix : Tinternal_stringslite_CutPrefix) (a0 : ByteArray) (a1 : ByteArray) (K : ByteArray → Bool → Prop) : Prop :=
 xinternal_stringslite_CutPrefix a0 a1 (fun r2 r3 =>
 K r2 r3)
def Xstrings_CutPrefix : Tstrings_CutPrefix := Ystrings_CutPrefix Xinternal_stringslite_CutPrefix
def Jstrings_CutPrefix (X : Tstrings_CutPrefix) : Inst := mkI 118 pL49 .nil pL50 .nil X
def Istrings_CutPrefix : Inst := Jstrings_CutPrefix Xstrings_CutPrefix
theorem Estrings_CutPrefix (xinternal_stringslite_CutPrefix : Tinternal_stringslite_CutPrefix) : EqF Tryz.prog 11 gives Tryz.f118 [Jinternal_stringslite_CutPrefix xinternal_stringslite_CutPrefix] [] (Jstrings_CutPrefix (Ystrings_CutPrefix xinternal_stringslite_CutPrefix)) := fun x y K => by kernel_rfl
theorem Istrings_CutPrefix_ok : InstOk Tryz.prog G.1 Istrings_CutPrefix := iok (gives := gives) [] (okCons Iinternal_stringslite_CutPrefix_ok okNil) 11 follows Tryz.func118 (by kernel_rfl) (fun x => by kernel_rfl) (Estrings_CutPrefix Xinternal_stringslite_CutPrefix)

/- internal/stringslite.Index -/
abbrev Tinternal_stringslite_Index : Type := ByteArray → ByteArray → (Int → Prop) → Prop
def Yinternal_stringslite_Index (xindexByte : TindexByte) (a0 : ByteArray) (a1 : ByteArray) (K : Int → Prop) : Prop :=
 (if ((↑(ByteArray.size a1) : Int) == 0) then
 K 0
 else
 (if (ByteArray.toList a1 == ByteArray.toList a0) then
 K 0
 else
 (if ((↑(ByteArray.size a1) : Int) == 1) then
 (if (0 :Int) ≤ 0 ∧ 0 < (↑(ByteArray.size a1) : Int) then
 xindexByte a0 (Eng.bAt a1 (0 : Nat)) (fun r2 =>
 K r2)
 else
 False)
 else
 (if decide ((↑(ByteArray.size a1) : Int) ≥ (↑(ByteArray.size a0) : Int)) then
 K (-1)
 else
 False))))
def Xinternal_stringslite_Index : Tinternal_stringslite_Index := Yinternal_stringslite_Index XindexByte
def Jinternal_stringslite_Index (X : Tinternal_stringslite_Index) : Inst := mkI 150 pL49 .nil pL16 .nil X
def Iinternal_stringslite_Index : Inst := Jinternal_stringslite_Index Xinternal_stringslite_Index
theorem Einternal_stringslite_Index (xindexByte : TindexByte) : EqF Tryz.prog 143 gives Tryz.f150 [JindexByte xindexByte] [] (Jinternal_stringslite_Index (Yinternal_stringslite_Index xindexByte)) := fun x y K => by kernel_rfl
theorem Iinternal_stringslite_Index_ok : InstOk Tryz.prog G.1 Iinternal_stringslite_Index := iok (gives := gives) [] (okCons IindexByte_ok okNil) 143 follows Tryz.func150 (by kernel_rfl) (fun x => by kernel_rfl) (Einternal_stringslite_Index XindexByte)

/- internal/stringslite.Cut -/
abbrev Tinternal_stringslite_Cut : Type := ByteArray → ByteArray → (ByteArray → ByteArray → Bool → Prop) → Prop
def Yinternal_stringslite_Cut (xinternal_stringslite_Index : Tinternal_stringslite_Index) (a0 : ByteArray) (a1 : ByteArray) (K : ByteArray → ByteArray → Bool → Prop) : Prop :=
 xinternal_stringslite_Index a0 a1 (fun r2 =>
 (if decide (r2 ≥ 0) then
 (if 0 ≤ r2 ∧ r2 ≤ (↑(ByteArray.size a0) : Int) then
 (if (0 :Int) ≤ 0 ∧ 0 ≤ r2 then
 (if 0 ≤ (↑(ByteArray.size a0) : Int) ∧ (↑(ByteArray.size a0) : Int) ≤ (↑(ByteArray.size a0) : Int) then
 (if 0 ≤ w64 (r2 + (↑(ByteArray.size a1) : Int)) ∧ w64 (r2 + (↑(ByteArray.size a1) : Int)) ≤ (↑(ByteArray.size a0) : Int) then
 (lt (ByteArray.extract a0 (Int.toNat (w64 (r2 + (↑(ByteArray.size a1) : Int)))) (Int.toNat (↑(ByteArray.size a0) : Int))) fun v3 =>
 K (ByteArray.extract a0 (0 : Nat) (Int.toNat r2)) v3 true)
 else
 False)
 else
 False)
 else
 False)
 else
 False)
 else
 K a0 (ByteArray.mk #[]) false))
def Xinternal_stringslite_Cut : Tinternal_stringslite_Cut := Yinternal_stringslite_Cut Xinternal_stringslite_Index
def Jinternal_stringslite_Cut (X : Tinternal_stringslite_Cut) : Inst := mkI 130 pL49 .nil pL51 .nil X
def Iinternal_stringslite_Cut : Inst := Jinternal_stringslite_Cut Xinternal_stringslite_Cut
theorem Einternal_stringslite_Cut (xinternal_stringslite_Index : Tinternal_stringslite_Index) : EqF Tryz.prog 23 gives Tryz.f130 [Jinternal_stringslite_Index xinternal_stringslite_Index] [] (Jinternal_stringslite_Cut (Yinternal_stringslite_Cut xinternal_stringslite_Index)) := fun x y K => by kernel_rfl
theorem Iinternal_stringslite_Cut_ok : InstOk Tryz.prog G.1 Iinternal_stringslite_Cut := iok (gives := gives) [] (okCons Iinternal_stringslite_Index_ok okNil) 23 follows Tryz.func130 (by kernel_rfl) (fun x => by kernel_rfl) (Einternal_stringslite_Cut Xinternal_stringslite_Index)

/- strings.Cut -/
abbrev Tstrings_Cut : Type := ByteArray → ByteArray → (ByteArray → ByteArray → Bool → Prop) → Prop
def Ystrings_Cut (xinternal_stringslite_Cut : Tinternal_stringslite_Cut) (a0 : ByteArray) (a1 : ByteArray) (K : ByteArray → ByteArray → Bool → Prop) : Prop :=
 xinternal_stringslite_Cut a0 a1 (fun r2 r3 r4 =>
 K r2 r3 r4)
def Xstrings_Cut : Tstrings_Cut := Ystrings_Cut Xinternal_stringslite_Cut
def Jstrings_Cut (X : Tstrings_Cut) : Inst := mkI 101 pL49 .nil pL51 .nil X
def Istrings_Cut : Inst := Jstrings_Cut Xstrings_Cut
theorem Estrings_Cut (xinternal_stringslite_Cut : Tinternal_stringslite_Cut) : EqF Tryz.prog 13 gives Tryz.f101 [Jinternal_stringslite_Cut xinternal_stringslite_Cut] [] (Jstrings_Cut (Ystrings_Cut xinternal_stringslite_Cut)) := fun x y K => by kernel_rfl
theorem Istrings_Cut_ok : InstOk Tryz.prog G.1 Istrings_Cut := iok (gives := gives) [] (okCons Iinternal_stringslite_Cut_ok okNil) 13 follows Tryz.func101 (by kernel_rfl) (fun x => by kernel_rfl) (Estrings_Cut Xinternal_stringslite_Cut)

/- epact/foot.plain -/
abbrev Tfoot_plain : Type := Int → (Bool → Prop) → Prop
def Yfoot_plain (a0 : Int) (K : Bool → Prop) : Prop :=
 (if decide (a0 ≥ 97) then
 (if decide (a0 ≤ 122) then
 K true
 else
 (if decide (a0 ≥ 65) then
 K (decide (a0 ≤ 90))
 else
 K false))
 else
 (if decide (a0 ≥ 65) then
 K (decide (a0 ≤ 90))
 else
 K false))
def Xfoot_plain : Tfoot_plain := Yfoot_plain
def Jfoot_plain (X : Tfoot_plain) : Inst := mkI 121 pL10 .nil pL11 .nil X
def Ifoot_plain : Inst := Jfoot_plain Xfoot_plain
theorem Efoot_plain : EqF Tryz.prog 17 gives Tryz.f121 [] [] (Jfoot_plain (Yfoot_plain)) := fun x y K => by kernel_rfl
theorem Ifoot_plain_ok : InstOk Tryz.prog G.1 Ifoot_plain := iok (gives := gives) [] okNil 17 follows Tryz.func121 (by kernel_rfl) (fun x => by kernel_rfl) (Efoot_plain)

/- (*epact/foot.reader).name$1 -/
abbrev Tfoot_reader_name_1 : Type := Int → (Bool → Prop) → Prop
def Yfoot_reader_name_1 (xfoot_plain : Tfoot_plain) (a0 : Int) (K : Bool → Prop) : Prop :=
 xfoot_plain a0 (fun r1 =>
 K !r1)
def Xfoot_reader_name_1 : Tfoot_reader_name_1 := Yfoot_reader_name_1 Xfoot_plain
def Jfoot_reader_name_1 (X : Tfoot_reader_name_1) : Inst := mkI 120 pL10 .nil pL11 .nil X
def Ifoot_reader_name_1 : Inst := Jfoot_reader_name_1 Xfoot_reader_name_1
theorem Efoot_reader_name_1 (xfoot_plain : Tfoot_plain) : EqF Tryz.prog 6 gives Tryz.f120 [Jfoot_plain xfoot_plain] [] (Jfoot_reader_name_1 (Yfoot_reader_name_1 xfoot_plain)) := fun x y K => by kernel_rfl
theorem Ifoot_reader_name_1_ok : InstOk Tryz.prog G.1 Ifoot_reader_name_1 := iok (gives := gives) [] (okCons Ifoot_plain_ok okNil) 6 follows Tryz.func120 (by kernel_rfl) (fun x => by kernel_rfl) (Efoot_reader_name_1 Xfoot_plain)

/- strings.indexFunc -/
abbrev Tstrings_indexFunc_1 : Type := ByteArray → Bool → (Int → Prop) → Prop
def Lstrings_indexFunc_1_0 (xfoot_reader_name_1 : Tfoot_reader_name_1) (K : Int → Prop) : (Q12 → Prop) → Q12 → Prop := fun k2 x3 =>
 (if x3.2.1.2 < ByteArray.size x3.2.1.1 then
 xfoot_reader_name_1 (↑(Prod.fst (Go.Utf8.decode x3.2.1.1 x3.2.1.2)) : Int) (fun r4 =>
 (if (r4 == x3.1.2.1) then
 K (↑(x3.2.1.2) : Int)
 else
 k2 ((((), ()), x3.1.2.1, x3.1.2.2.1, (), ()), (x3.2.1.1, x3.2.1.2 + Prod.snd (Go.Utf8.decode x3.2.1.1 x3.2.1.2)), ())))
 else
 K (-1))
def Lstrings_indexFunc_1_0p : Lp := ⟨1094, [.trim 1094], pT52, pH14, 0⟩
def Ystrings_indexFunc_1 (xfoot_reader_name_1 : Tfoot_reader_name_1) (a0 : ByteArray) (a1 : Bool) (K : Int → Prop) : Prop :=
 lp (Lstrings_indexFunc_1_0 xfoot_reader_name_1 K) ((((), ()), a1, 0, (), ()), (a0, (0 : Nat)), ())
def Xstrings_indexFunc_1 : Tstrings_indexFunc_1 := Ystrings_indexFunc_1 Xfoot_reader_name_1
def Jstrings_indexFunc_1 (X : Tstrings_indexFunc_1) : Inst := mkI 141 pL53 .nil pL16 .nil X
def Istrings_indexFunc_1 : Inst := Jstrings_indexFunc_1 Xstrings_indexFunc_1
theorem Estrings_indexFunc_1 (xfoot_reader_name_1 : Tfoot_reader_name_1) : EqF Tryz.prog 21 gives Tryz.f141 [Jfoot_reader_name_1 xfoot_reader_name_1] [Lstrings_indexFunc_1_0p] (Jstrings_indexFunc_1 (Ystrings_indexFunc_1 xfoot_reader_name_1)) := fun x y K => by kernel_rfl
theorem Istrings_indexFunc_1_ok : InstOk Tryz.prog G.1 Istrings_indexFunc_1 := iok (gives := gives) [Lstrings_indexFunc_1_0p] (okCons Ifoot_reader_name_1_ok okNil) 21 follows Tryz.func141 (by kernel_rfl) (fun x => by kernel_rfl) (Estrings_indexFunc_1 Xfoot_reader_name_1)

/- strings.IndexFunc -/
abbrev Tstrings_IndexFunc_1 : Type := ByteArray → (Int → Prop) → Prop
def Ystrings_IndexFunc_1 (xstrings_indexFunc_1 : Tstrings_indexFunc_1) (a0 : ByteArray) (K : Int → Prop) : Prop :=
 xstrings_indexFunc_1 a0 true (fun r1 =>
 K r1)
def Xstrings_IndexFunc_1 : Tstrings_IndexFunc_1 := Ystrings_IndexFunc_1 Xstrings_indexFunc_1
def Jstrings_IndexFunc_1 (X : Tstrings_IndexFunc_1) : Inst := mkI 119 pL54 .nil pL16 .nil X
def Istrings_IndexFunc_1 : Inst := Jstrings_IndexFunc_1 Xstrings_IndexFunc_1
theorem Estrings_IndexFunc_1 (xstrings_indexFunc_1 : Tstrings_indexFunc_1) : EqF Tryz.prog 8 gives Tryz.f119 [Jstrings_indexFunc_1 xstrings_indexFunc_1] [] (Jstrings_IndexFunc_1 (Ystrings_IndexFunc_1 xstrings_indexFunc_1)) := fun x y K => by kernel_rfl
theorem Istrings_IndexFunc_1_ok : InstOk Tryz.prog G.1 Istrings_IndexFunc_1 := iok (gives := gives) [] (okCons Istrings_indexFunc_1_ok okNil) 8 follows Tryz.func119 (by kernel_rfl) (fun x => by kernel_rfl) (Estrings_IndexFunc_1 Xstrings_indexFunc_1)

/- (*epact/foot.reader).name -/
abbrev Tfoot_reader_name : Type := ByteArray → Int → Bool → ByteArray → Int → Bool → ByteArray → Bool → Int → Int → Int → Int → Int → Int → Int → Int → Int → Int → (ByteArray → Bool → ByteArray → Int → Bool → ByteArray → Int → Bool → ByteArray → Bool → Int → Int → Int → Int → Int → Int → Int → Int → Int → Int → Prop) → Prop
def Yfoot_reader_name (xstrings_CutPrefix : Tstrings_CutPrefix) (xstrings_Cut : Tstrings_Cut) (xabbr_Right : Tabbr_Right) (xstrings_IndexFunc_1 : Tstrings_IndexFunc_1) (a0 : ByteArray) (a1 : Int) (a2 : Bool) (a3 : ByteArray) (a4 : Int) (a5 : Bool) (a6 : ByteArray) (a7 : Bool) (a8 : Int) (a9 : Int) (a10 : Int) (a11 : Int) (a12 : Int) (a13 : Int) (a14 : Int) (a15 : Int) (a16 : Int) (a17 : Int) (K : ByteArray → Bool → ByteArray → Int → Bool → ByteArray → Int → Bool → ByteArray → Bool → Int → Int → Int → Int → Int → Int → Int → Int → Int → Int → Prop) : Prop :=
 xstrings_CutPrefix a0 (ByteArray.mk #[(60 : UInt8)]) (fun r18 r19 =>
 (if r19 then
 xstrings_Cut r18 (ByteArray.mk #[(62 : UInt8)]) (fun r20 r21 r22 =>
 (if r22 then
 xabbr_Right r20 (fun r23 =>
 K r20 r23 r21 a1 a2 a3 a4 a5 a6 a7 a8 a9 a10 a11 a12 a13 a14 a15 a16 a17)
 else
 K r20 false r21 a1 a2 a3 a4 a5 a6 a7 a8 a9 a10 a11 a12 a13 a14 a15 a16 a17))
 else
 xstrings_IndexFunc_1 a0 (fun r24 =>
 (if decide (r24 < 0) then
 (if 0 ≤ (↑(ByteArray.size a0) : Int) ∧ (↑(ByteArray.size a0) : Int) ≤ (↑(ByteArray.size a0) : Int) then
 (if 0 ≤ (↑(ByteArray.size a0) : Int) ∧ (↑(ByteArray.size a0) : Int) ≤ (↑(ByteArray.size a0) : Int) then
 (if 0 ≤ (↑(ByteArray.size a0) : Int) ∧ (↑(ByteArray.size a0) : Int) ≤ (↑(ByteArray.size a0) : Int) then
 xabbr_Right (ByteArray.extract a0 (0 : Nat) (Int.toNat (↑(ByteArray.size a0) : Int))) (fun r25 =>
 K (ByteArray.extract a0 (0 : Nat) (Int.toNat (↑(ByteArray.size a0) : Int))) r25 (ByteArray.extract a0 (Int.toNat (↑(ByteArray.size a0) : Int)) (Int.toNat (↑(ByteArray.size a0) : Int))) a1 a2 a3 a4 a5 a6 a7 a8 a9 a10 a11 a12 a13 a14 a15 a16 a17)
 else
 False)
 else
 False)
 else
 False)
 else
 (if 0 ≤ r24 ∧ r24 ≤ (↑(ByteArray.size a0) : Int) then
 (if (0 :Int) ≤ 0 ∧ 0 ≤ r24 then
 (if 0 ≤ (↑(ByteArray.size a0) : Int) ∧ (↑(ByteArray.size a0) : Int) ≤ (↑(ByteArray.size a0) : Int) then
 (if 0 ≤ r24 ∧ r24 ≤ (↑(ByteArray.size a0) : Int) then
 xabbr_Right (ByteArray.extract a0 (0 : Nat) (Int.toNat r24)) (fun r26 =>
 K (ByteArray.extract a0 (0 : Nat) (Int.toNat r24)) r26 (ByteArray.extract a0 (Int.toNat r24) (Int.toNat (↑(ByteArray.size a0) : Int))) a1 a2 a3 a4 a5 a6 a7 a8 a9 a10 a11 a12 a13 a14 a15 a16 a17)
 else
 False)
 else
 False)
 else
 False)
 else
 False)))))
def Xfoot_reader_name : Tfoot_reader_name := Yfoot_reader_name Xstrings_CutPrefix Xstrings_Cut Xabbr_Right Xstrings_IndexFunc_1
def Jfoot_reader_name (X : Tfoot_reader_name) : Inst := mkI 88 pL55 pH56 pL50 pH56 X
def Ifoot_reader_name : Inst := Jfoot_reader_name Xfoot_reader_name
theorem Efoot_reader_name (xstrings_CutPrefix : Tstrings_CutPrefix) (xstrings_Cut : Tstrings_Cut) (xabbr_Right : Tabbr_Right) (xstrings_IndexFunc_1 : Tstrings_IndexFunc_1) : EqF Tryz.prog 61 gives Tryz.f88 [Jstrings_CutPrefix xstrings_CutPrefix, Jstrings_Cut xstrings_Cut, Jabbr_Right xabbr_Right, Jstrings_IndexFunc_1 xstrings_IndexFunc_1] [] (Jfoot_reader_name (Yfoot_reader_name xstrings_CutPrefix xstrings_Cut xabbr_Right xstrings_IndexFunc_1)) := fun x y K => by kernel_rfl
theorem Ifoot_reader_name_ok : InstOk Tryz.prog G.1 Ifoot_reader_name := iok (gives := gives) [] (okCons Istrings_CutPrefix_ok (okCons Istrings_Cut_ok (okCons Iabbr_Right_ok (okCons Istrings_IndexFunc_1_ok okNil)))) 61 follows Tryz.func88 (by kernel_rfl) (fun x => by kernel_rfl) (Efoot_reader_name Xstrings_CutPrefix Xstrings_Cut Xabbr_Right Xstrings_IndexFunc_1)

/- internal/stringslite.TrimPrefix -/
abbrev Tinternal_stringslite_TrimPrefix : Type := ByteArray → ByteArray → (ByteArray → Prop) → Prop
def Yinternal_stringslite_TrimPrefix (xinternal_stringslite_HasPrefix : Tinternal_stringslite_HasPrefix) (a0 : ByteArray) (a1 : ByteArray) (K : ByteArray → Prop) : Prop :=
 xinternal_stringslite_HasPrefix a0 a1 (fun r2 =>
 (if r2 then
 (if 0 ≤ (↑(ByteArray.size a0) : Int) ∧ (↑(ByteArray.size a0) : Int) ≤ (↑(ByteArray.size a0) : Int) then
 (if 0 ≤ (↑(ByteArray.size a1) : Int) ∧ (↑(ByteArray.size a1) : Int) ≤ (↑(ByteArray.size a0) : Int) then
 K (ByteArray.extract a0 (Int.toNat (↑(ByteArray.size a1) : Int)) (Int.toNat (↑(ByteArray.size a0) : Int)))
 else
 False)
 else
 False)
 else
 K a0))
def Xinternal_stringslite_TrimPrefix : Tinternal_stringslite_TrimPrefix := Yinternal_stringslite_TrimPrefix Xinternal_stringslite_HasPrefix
def Jinternal_stringslite_TrimPrefix (X : Tinternal_stringslite_TrimPrefix) : Inst := mkI 142 pL49 .nil pL18 .nil X
def Iinternal_stringslite_TrimPrefix : Inst := Jinternal_stringslite_TrimPrefix Xinternal_stringslite_TrimPrefix
theorem Einternal_stringslite_TrimPrefix (xinternal_stringslite_HasPrefix : Tinternal_stringslite_HasPrefix) : EqF Tryz.prog 13 gives Tryz.f142 [Jinternal_stringslite_HasPrefix xinternal_stringslite_HasPrefix] [] (Jinternal_stringslite_TrimPrefix (Yinternal_stringslite_TrimPrefix xinternal_stringslite_HasPrefix)) := fun x y K => by kernel_rfl
theorem Iinternal_stringslite_TrimPrefix_ok : InstOk Tryz.prog G.1 Iinternal_stringslite_TrimPrefix := iok (gives := gives) [] (okCons Iinternal_stringslite_HasPrefix_ok okNil) 13 follows Tryz.func142 (by kernel_rfl) (fun x => by kernel_rfl) (Einternal_stringslite_TrimPrefix Xinternal_stringslite_HasPrefix)

/- strings.TrimPrefix -/
abbrev Tstrings_TrimPrefix : Type := ByteArray → ByteArray → (ByteArray → Prop) → Prop
def Ystrings_TrimPrefix (xinternal_stringslite_TrimPrefix : Tinternal_stringslite_TrimPrefix) (a0 : ByteArray) (a1 : ByteArray) (K : ByteArray → Prop) : Prop :=
 xinternal_stringslite_TrimPrefix a0 a1 (fun r2 =>
 K r2)
def Xstrings_TrimPrefix : Tstrings_TrimPrefix := Ystrings_TrimPrefix Xinternal_stringslite_TrimPrefix
def Jstrings_TrimPrefix (X : Tstrings_TrimPrefix) : Inst := mkI 122 pL49 .nil pL18 .nil X
def Istrings_TrimPrefix : Inst := Jstrings_TrimPrefix Xstrings_TrimPrefix
theorem Estrings_TrimPrefix (xinternal_stringslite_TrimPrefix : Tinternal_stringslite_TrimPrefix) : EqF Tryz.prog 8 gives Tryz.f122 [Jinternal_stringslite_TrimPrefix xinternal_stringslite_TrimPrefix] [] (Jstrings_TrimPrefix (Ystrings_TrimPrefix xinternal_stringslite_TrimPrefix)) := fun x y K => by kernel_rfl
theorem Istrings_TrimPrefix_ok : InstOk Tryz.prog G.1 Istrings_TrimPrefix := iok (gives := gives) [] (okCons Iinternal_stringslite_TrimPrefix_ok okNil) 8 follows Tryz.func122 (by kernel_rfl) (fun x => by kernel_rfl) (Estrings_TrimPrefix Xinternal_stringslite_TrimPrefix)

/- epact/rule.digits -/
abbrev Trule_digits : Type := ByteArray → (Int → Prop) → Prop
def Lrule_digits_0 (K : Int → Prop) : (Q57 → Prop) → Q57 → Prop := fun k1 x2 =>
 (if x2.2.1.2 < ByteArray.size x2.2.1.1 then
 (if decide ((↑(Prod.fst (Go.Utf8.decode x2.2.1.1 x2.2.1.2)) : Int) < 48) then
 K (↑(x2.2.1.2) : Int)
 else
 (if decide ((↑(Prod.fst (Go.Utf8.decode x2.2.1.1 x2.2.1.2)) : Int) > 57) then
 K (↑(x2.2.1.2) : Int)
 else
 k1 ((x2.1.1, x2.1.2.1, (), ()), (x2.2.1.1, x2.2.1.2 + Prod.snd (Go.Utf8.decode x2.2.1.1 x2.2.1.2)), ())))
 else
 K (↑(ByteArray.size x2.1.1) : Int))
def Lrule_digits_0p : Lp := ⟨69, [.trim 69], pT58, pH59, 0⟩
def Yrule_digits (a0 : ByteArray) (K : Int → Prop) : Prop :=
 lp (Lrule_digits_0 K) ((a0, 0, (), ()), (a0, (0 : Nat)), ())
def Xrule_digits : Trule_digits := Yrule_digits
def Jrule_digits (X : Trule_digits) : Inst := mkI 123 pL18 .nil pL16 .nil X
def Irule_digits : Inst := Jrule_digits Xrule_digits
theorem Erule_digits : EqF Tryz.prog 20 gives Tryz.f123 [] [Lrule_digits_0p] (Jrule_digits (Yrule_digits)) := fun x y K => by kernel_rfl
theorem Irule_digits_ok : InstOk Tryz.prog G.1 Irule_digits := iok (gives := gives) [Lrule_digits_0p] okNil 20 follows Tryz.func123 (by kernel_rfl) (fun x => by kernel_rfl) (Erule_digits)

/- epact/rule.sixty -/
abbrev Trule_sixty : Type := ByteArray → (Int → ByteArray → Bool → Prop) → Prop
def Yrule_sixty (xrule_digits : Trule_digits) (xatoi : Tatoi) (a0 : ByteArray) (K : Int → ByteArray → Bool → Prop) : Prop :=
 (if decide ((↑(ByteArray.size a0) : Int) < 3) then
 K 0 a0 false
 else
 (if (0 :Int) ≤ 0 ∧ 0 < (↑(ByteArray.size a0) : Int) then
 (if (Eng.bAt a0 (0 : Nat) != 58) then
 K 0 a0 false
 else
 (if 0 ≤ (↑(ByteArray.size a0) : Int) ∧ (↑(ByteArray.size a0) : Int) ≤ (↑(ByteArray.size a0) : Int) then
 (if (0 :Int) ≤ 1 ∧ 1 ≤ (↑(ByteArray.size a0) : Int) then
 xrule_digits (ByteArray.extract a0 (1 : Nat) (Int.toNat (↑(ByteArray.size a0) : Int))) (fun r1 =>
 (if decide (r1 < 2) then
 K 0 a0 false
 else
 (if (0 :Int) ≤ 1 ∧ 1 < (↑(ByteArray.size a0) : Int) then
 (if decide (Eng.bAt a0 (1 : Nat) > 53) then
 K 0 a0 false
 else
 (if (0 :Int) ≤ 3 ∧ 3 ≤ (↑(ByteArray.size a0) : Int) then
 xatoi (ByteArray.extract a0 (1 : Nat) (3 : Nat)) (fun r2 r3 =>
 (if 0 ≤ (↑(ByteArray.size a0) : Int) ∧ (↑(ByteArray.size a0) : Int) ≤ (↑(ByteArray.size a0) : Int) then
 (if (0 :Int) ≤ 3 ∧ 3 ≤ (↑(ByteArray.size a0) : Int) then
 K r2 (ByteArray.extract a0 (3 : Nat) (Int.toNat (↑(ByteArray.size a0) : Int))) true
 else
 False)
 else
 False))
 else
 False))
 else
 False)))
 else
 False)
 else
 False))
 else
 False))
def Xrule_sixty : Trule_sixty := Yrule_sixty Xrule_digits Xatoi
def Jrule_sixty (X : Trule_sixty) : Inst := mkI 125 pL18 .nil pL60 .nil X
def Irule_sixty : Inst := Jrule_sixty Xrule_sixty
theorem Erule_sixty (xrule_digits : Trule_digits) (xatoi : Tatoi) : EqF Tryz.prog 34 gives Tryz.f125 [Jrule_digits xrule_digits, Jatoi xatoi] [] (Jrule_sixty (Yrule_sixty xrule_digits xatoi)) := fun x y K => by kernel_rfl
theorem Irule_sixty_ok : InstOk Tryz.prog G.1 Irule_sixty := iok (gives := gives) [] (okCons Irule_digits_ok (okCons Iatoi_ok okNil)) 34 follows Tryz.func125 (by kernel_rfl) (fun x => by kernel_rfl) (Erule_sixty Xrule_digits Xatoi)

/- epact/rule.more -/
abbrev Trule_more : Type := ByteArray → Bool → (Int → ByteArray → Bool → Prop) → Prop
def Yrule_more (xrule_sixty : Trule_sixty) (a0 : ByteArray) (a1 : Bool) (K : Int → ByteArray → Bool → Prop) : Prop :=
 (if (!a1) then
 K 0 a0 false
 else
 xrule_sixty a0 (fun r2 r3 r4 =>
 K r2 r3 r4))
def Xrule_more : Trule_more := Yrule_more Xrule_sixty
def Jrule_more (X : Trule_more) : Inst := mkI 126 pL50 .nil pL60 .nil X
def Irule_more : Inst := Jrule_more Xrule_more
theorem Erule_more (xrule_sixty : Trule_sixty) : EqF Tryz.prog 15 gives Tryz.f126 [Jrule_sixty xrule_sixty] [] (Jrule_more (Yrule_more xrule_sixty)) := fun x y K => by kernel_rfl
theorem Irule_more_ok : InstOk Tryz.prog G.1 Irule_more := iok (gives := gives) [] (okCons Irule_sixty_ok okNil) 15 follows Tryz.func126 (by kernel_rfl) (fun x => by kernel_rfl) (Erule_more Xrule_sixty)

/- epact/rule.Time -/
abbrev Trule_Time : Type := ByteArray → (Int → ByteArray → Bool → Prop) → Prop
def Yrule_Time (xstrings_TrimPrefix : Tstrings_TrimPrefix) (xrule_digits : Trule_digits) (xatoi : Tatoi) (xrule_sixty : Trule_sixty) (xrule_more : Trule_more) (a0 : ByteArray) (K : Int → ByteArray → Bool → Prop) : Prop :=
 xstrings_TrimPrefix a0 (ByteArray.mk #[(45 : UInt8)]) (fun r1 =>
 (if ((↑(ByteArray.size r1) : Int) == (↑(ByteArray.size a0) : Int)) then
 xstrings_TrimPrefix a0 (ByteArray.mk #[(43 : UInt8)]) (fun r2 =>
 xrule_digits r2 (fun r3 =>
 (if ((if 3 < r3 then 3 else r3) == 0) then
 K 0 a0 false
 else
 (if (0 ≤ if 3 < r3 then 3 else r3) ∧ (if 3 < r3 then 3 else r3) ≤ (↑(ByteArray.size r2) : Int) then
 (if (0 :Int) ≤ 0 ∧ 0 ≤ if 3 < r3 then 3 else r3 then
 xatoi (ByteArray.extract r2 (0 : Nat) (Int.toNat (if 3 < r3 then 3 else r3))) (fun r4 r5 =>
 (if decide (r4 > 167) then
 (if 0 ≤ (↑(ByteArray.size r2) : Int) ∧ (↑(ByteArray.size r2) : Int) ≤ (↑(ByteArray.size r2) : Int) then
 (if 0 ≤ w64 ((if 3 < r3 then 3 else r3) - 1) ∧ w64 ((if 3 < r3 then 3 else r3) - 1) ≤ (↑(ByteArray.size r2) : Int) then
 (lt (ByteArray.extract r2 (Int.toNat (w64 ((if 3 < r3 then 3 else r3) - 1))) (Int.toNat (↑(ByteArray.size r2) : Int))) fun v6 =>
 xrule_sixty v6 (fun r7 r8 r9 =>
 xrule_more r8 r9 (fun r10 r11 r12 =>
 (lt (w64 (w64 (Int.tdiv r4 10) * 3600)) fun v13 =>
 (lt (w64 (v13 + w64 (r7 * 60))) fun v14 =>
 (lt (w64 (1 * w64 (v14 + r10))) fun v15 =>
 K v15 r11 true))))))
 else
 False)
 else
 False)
 else
 (if 0 ≤ (↑(ByteArray.size r2) : Int) ∧ (↑(ByteArray.size r2) : Int) ≤ (↑(ByteArray.size r2) : Int) then
 (if (0 ≤ if 3 < r3 then 3 else r3) ∧ (if 3 < r3 then 3 else r3) ≤ (↑(ByteArray.size r2) : Int) then
 xrule_sixty (ByteArray.extract r2 (Int.toNat (if 3 < r3 then 3 else r3)) (Int.toNat (↑(ByteArray.size r2) : Int))) (fun r16 r17 r18 =>
 xrule_more r17 r18 (fun r19 r20 r21 =>
 (lt (w64 (w64 (r4 * 3600) + w64 (r16 * 60))) fun v22 =>
 (lt (w64 (1 * w64 (v22 + r19))) fun v23 =>
 K v23 r20 true))))
 else
 False)
 else
 False)))
 else
 False)
 else
 False))))
 else
 xrule_digits r1 (fun r24 =>
 (if ((if 3 < r24 then 3 else r24) == 0) then
 K 0 a0 false
 else
 (if (0 ≤ if 3 < r24 then 3 else r24) ∧ (if 3 < r24 then 3 else r24) ≤ (↑(ByteArray.size r1) : Int) then
 (if (0 :Int) ≤ 0 ∧ 0 ≤ if 3 < r24 then 3 else r24 then
 xatoi (ByteArray.extract r1 (0 : Nat) (Int.toNat (if 3 < r24 then 3 else r24))) (fun r25 r26 =>
 (if decide (r25 > 167) then
 (if 0 ≤ (↑(ByteArray.size r1) : Int) ∧ (↑(ByteArray.size r1) : Int) ≤ (↑(ByteArray.size r1) : Int) then
 (if 0 ≤ w64 ((if 3 < r24 then 3 else r24) - 1) ∧ w64 ((if 3 < r24 then 3 else r24) - 1) ≤ (↑(ByteArray.size r1) : Int) then
 (lt (ByteArray.extract r1 (Int.toNat (w64 ((if 3 < r24 then 3 else r24) - 1))) (Int.toNat (↑(ByteArray.size r1) : Int))) fun v27 =>
 xrule_sixty v27 (fun r28 r29 r30 =>
 xrule_more r29 r30 (fun r31 r32 r33 =>
 (lt (w64 (w64 (Int.tdiv r25 10) * 3600)) fun v34 =>
 (lt (w64 (v34 + w64 (r28 * 60))) fun v35 =>
 (lt (w64 ((-1) * w64 (v35 + r31))) fun v36 =>
 K v36 r32 true))))))
 else
 False)
 else
 False)
 else
 (if 0 ≤ (↑(ByteArray.size r1) : Int) ∧ (↑(ByteArray.size r1) : Int) ≤ (↑(ByteArray.size r1) : Int) then
 (if (0 ≤ if 3 < r24 then 3 else r24) ∧ (if 3 < r24 then 3 else r24) ≤ (↑(ByteArray.size r1) : Int) then
 xrule_sixty (ByteArray.extract r1 (Int.toNat (if 3 < r24 then 3 else r24)) (Int.toNat (↑(ByteArray.size r1) : Int))) (fun r37 r38 r39 =>
 xrule_more r38 r39 (fun r40 r41 r42 =>
 (lt (w64 (w64 (r25 * 3600) + w64 (r37 * 60))) fun v43 =>
 (lt (w64 ((-1) * w64 (v43 + r40))) fun v44 =>
 K v44 r41 true))))
 else
 False)
 else
 False)))
 else
 False)
 else
 False)))))
def Xrule_Time : Trule_Time := Yrule_Time Xstrings_TrimPrefix Xrule_digits Xatoi Xrule_sixty Xrule_more
def Jrule_Time (X : Trule_Time) : Inst := mkI 89 pL18 .nil pL60 .nil X
def Irule_Time : Inst := Jrule_Time Xrule_Time
theorem Erule_Time (xstrings_TrimPrefix : Tstrings_TrimPrefix) (xrule_digits : Trule_digits) (xatoi : Tatoi) (xrule_sixty : Trule_sixty) (xrule_more : Trule_more) : EqF Tryz.prog 68 gives Tryz.f89 [Jstrings_TrimPrefix xstrings_TrimPrefix, Jrule_digits xrule_digits, Jatoi xatoi, Jrule_sixty xrule_sixty, Jrule_more xrule_more] [] (Jrule_Time (Yrule_Time xstrings_TrimPrefix xrule_digits xatoi xrule_sixty xrule_more)) := fun x y K => by kernel_rfl
theorem Irule_Time_ok : InstOk Tryz.prog G.1 Irule_Time := iok (gives := gives) [] (okCons Istrings_TrimPrefix_ok (okCons Irule_digits_ok (okCons Iatoi_ok (okCons Irule_sixty_ok (okCons Irule_more_ok okNil))))) 68 follows Tryz.func89 (by kernel_rfl) (fun x => by kernel_rfl) (Erule_Time Xstrings_TrimPrefix Xrule_digits Xatoi Xrule_sixty Xrule_more)

/- (*epact/foot.reader).usual -/
abbrev Tfoot_reader_usual : Type := ByteArray → Int → Bool → ByteArray → Int → Bool → ByteArray → Bool → Int → Int → Int → Int → Int → Int → Int → Int → Int → Int → (Bool → ByteArray → Int → Bool → ByteArray → Int → Bool → ByteArray → Bool → Int → Int → Int → Int → Int → Int → Int → Int → Int → Int → Prop) → Prop
def Yfoot_reader_usual (xfoot_reader_name : Tfoot_reader_name) (xrule_Time : Trule_Time) (a0 : ByteArray) (a1 : Int) (a2 : Bool) (a3 : ByteArray) (a4 : Int) (a5 : Bool) (a6 : ByteArray) (a7 : Bool) (a8 : Int) (a9 : Int) (a10 : Int) (a11 : Int) (a12 : Int) (a13 : Int) (a14 : Int) (a15 : Int) (a16 : Int) (a17 : Int) (K : Bool → ByteArray → Int → Bool → ByteArray → Int → Bool → ByteArray → Bool → Int → Int → Int → Int → Int → Int → Int → Int → Int → Int → Prop) : Prop :=
 xfoot_reader_name a0 a1 a2 a3 a4 a5 a6 a7 a8 a9 a10 a11 a12 a13 a14 a15 a16 a17 (fun r18 r19 r20 r21 r22 r23 r24 r25 r26 r27 r28 r29 r30 r31 r32 r33 r34 r35 r36 r37 =>
 xrule_Time r20 (fun r38 r39 r40 =>
 (if r19 then
 K r40 r39 (w64 (0 - r38)) false r18 r24 r25 r26 r27 r28 r29 r30 r31 r32 r33 r34 r35 r36 r37
 else
 K false r39 (w64 (0 - r38)) false r18 r24 r25 r26 r27 r28 r29 r30 r31 r32 r33 r34 r35 r36 r37)))
def Xfoot_reader_usual : Tfoot_reader_usual := Yfoot_reader_usual Xfoot_reader_name Xrule_Time
def Jfoot_reader_usual (X : Tfoot_reader_usual) : Inst := mkI 51 pL55 pH56 pL11 pH56 X
def Ifoot_reader_usual : Inst := Jfoot_reader_usual Xfoot_reader_usual
theorem Efoot_reader_usual (xfoot_reader_name : Tfoot_reader_name) (xrule_Time : Trule_Time) : EqF Tryz.prog 38 gives Tryz.f51 [Jfoot_reader_name xfoot_reader_name, Jrule_Time xrule_Time] [] (Jfoot_reader_usual (Yfoot_reader_usual xfoot_reader_name xrule_Time)) := fun x y K => by kernel_rfl
theorem Ifoot_reader_usual_ok : InstOk Tryz.prog G.1 Ifoot_reader_usual := iok (gives := gives) [] (okCons Ifoot_reader_name_ok (okCons Irule_Time_ok okNil)) 38 follows Tryz.func51 (by kernel_rfl) (fun x => by kernel_rfl) (Efoot_reader_usual Xfoot_reader_name Xrule_Time)

/- epact/foot.kind -/
abbrev Tfoot_kind : Type := Q37 → Bool → (Bool → Prop) → Prop
def Yfoot_kind (xabbr_Right : Tabbr_Right) (a0 : Q37) (a1 : Bool) (K : Bool → Prop) : Prop :=
 xabbr_Right a0.2.2.1 (fun r2 =>
 (if r2 then
 (if (a0.2.1 == a1) then
 (if decide (a0.1 ≥ (-89999)) then
 K (decide (a0.1 ≤ 89999))
 else
 K false)
 else
 K false)
 else
 K false))
def Xfoot_kind : Tfoot_kind := Yfoot_kind Xabbr_Right
def Jfoot_kind (X : Tfoot_kind) : Inst := mkI 91 pL61 .nil pL11 .nil X
def Ifoot_kind : Inst := Jfoot_kind Xfoot_kind
theorem Efoot_kind (xabbr_Right : Tabbr_Right) : EqF Tryz.prog 24 gives Tryz.f91 [Jabbr_Right xabbr_Right] [] (Jfoot_kind (Yfoot_kind xabbr_Right)) := fun x y K => by kernel_rfl
theorem Ifoot_kind_ok : InstOk Tryz.prog G.1 Ifoot_kind := iok (gives := gives) [] (okCons Iabbr_Right_ok okNil) 24 follows Tryz.func91 (by kernel_rfl) (fun x => by kernel_rfl) (Efoot_kind Xabbr_Right)

/- epact/rule.within -/
abbrev Trule_within : Type := Int → Int → Int → (Bool → Prop) → Prop
def Yrule_within (a0 : Int) (a1 : Int) (a2 : Int) (K : Bool → Prop) : Prop :=
 (if decide (a0 ≥ a1) then
 K (decide (a0 ≤ a2))
 else
 K false)
def Xrule_within : Trule_within := Yrule_within
def Jrule_within (X : Trule_within) : Inst := mkI 128 pL28 .nil pL11 .nil X
def Irule_within : Inst := Jrule_within Xrule_within
theorem Erule_within : EqF Tryz.prog 15 gives Tryz.f128 [] [] (Jrule_within (Yrule_within)) := fun x y K => by kernel_rfl
theorem Irule_within_ok : InstOk Tryz.prog G.1 Irule_within := iok (gives := gives) [] okNil 15 follows Tryz.func128 (by kernel_rfl) (fun x => by kernel_rfl) (Erule_within)

/- epact/rule.Right -/
abbrev Trule_Right : Type := Q62 → (Bool → Prop) → Prop
def Yrule_Right (xrule_within : Trule_within) (a0 : Q62) (K : Bool → Prop) : Prop :=
 xrule_within a0.2.2.2.2.1 (-604799) 604799 (fun r1 =>
 (if (a0.1 == 0) then
 (if r1 then
 xrule_within a0.2.1 1 12 (fun r2 =>
 (if r2 then
 xrule_within a0.2.2.1 1 5 (fun r3 =>
 (if r3 then
 xrule_within a0.2.2.2.1 0 6 (fun r4 =>
 K r4)
 else
 K false))
 else
 K false))
 else
 K false)
 else
 (if (a0.1 == 1) then
 (if r1 then
 (if decide (a0.2.1 > 0) then
 xrule_within a0.2.1 0 365 (fun r5 =>
 (if r5 then
 (if (a0.2.2.1 == 0) then
 K (a0.2.2.2.1 == 0)
 else
 K false)
 else
 K false))
 else
 K false)
 else
 K false)
 else
 (if (a0.1 == 2) then
 (if r1 then
 xrule_within a0.2.1 0 365 (fun r6 =>
 (if r6 then
 (if (a0.2.2.1 == 0) then
 K (a0.2.2.2.1 == 0)
 else
 K false)
 else
 K false))
 else
 K false)
 else
 K false))))
def Xrule_Right : Trule_Right := Yrule_Right Xrule_within
def Jrule_Right (X : Trule_Right) : Inst := mkI 92 pL63 .nil pL11 .nil X
def Irule_Right : Inst := Jrule_Right Xrule_Right
theorem Erule_Right (xrule_within : Trule_within) : EqF Tryz.prog 53 gives Tryz.f92 [Jrule_within xrule_within] [] (Jrule_Right (Yrule_Right xrule_within)) := fun x y K => by kernel_rfl
theorem Irule_Right_ok : InstOk Tryz.prog G.1 Irule_Right := iok (gives := gives) [] (okCons Irule_within_ok okNil) 53 follows Tryz.func92 (by kernel_rfl) (fun x => by kernel_rfl) (Erule_Right Xrule_within)

/- epact/foot.Right -/
abbrev Tfoot_Right : Type := Q64 → (Bool → Prop) → Prop
def Yfoot_Right (xfoot_kind : Tfoot_kind) (xrule_Right : Trule_Right) (a0 : Q64) (K : Bool → Prop) : Prop :=
 xfoot_kind (a0.1, a0.2.1, a0.2.2.1, ()) false (fun r1 =>
 (if (!r1) then
 K false
 else
 (if a0.2.2.2.2.2.2.1 then
 xfoot_kind (a0.2.2.2.1, a0.2.2.2.2.1, a0.2.2.2.2.2.1, ()) true (fun r2 =>
 (if r2 then
 xrule_Right (a0.2.2.2.2.2.2.2.1, a0.2.2.2.2.2.2.2.2.1, a0.2.2.2.2.2.2.2.2.2.1, a0.2.2.2.2.2.2.2.2.2.2.1, a0.2.2.2.2.2.2.2.2.2.2.2.1, ()) (fun r3 =>
 (if r3 then
 xrule_Right a0.2.2.2.2.2.2.2.2.2.2.2.2 (fun r4 =>
 K r4)
 else
 K false))
 else
 K false))
 else
 (lt (a0.1 == a0.1 && (a0.2.1 == a0.2.1 && (ByteArray.toList a0.2.2.1 == ByteArray.toList a0.2.2.1 && true)) && (a0.2.2.2.1 == 0 && (a0.2.2.2.2.1 == false && (ByteArray.toList a0.2.2.2.2.2.1 == ByteArray.toList (ByteArray.mk #[]) && true)) && (a0.2.2.2.2.2.2.1 == false && (a0.2.2.2.2.2.2.2.1 == 0 && (a0.2.2.2.2.2.2.2.2.1 == 0 && (a0.2.2.2.2.2.2.2.2.2.1 == 0 && (a0.2.2.2.2.2.2.2.2.2.2.1 == 0 && (a0.2.2.2.2.2.2.2.2.2.2.2.1 == 0 && true)))) && (a0.2.2.2.2.2.2.2.2.2.2.2.2.1 == 0 && (a0.2.2.2.2.2.2.2.2.2.2.2.2.2.1 == 0 && (a0.2.2.2.2.2.2.2.2.2.2.2.2.2.2.1 == 0 && (a0.2.2.2.2.2.2.2.2.2.2.2.2.2.2.2.1 == 0 && (a0.2.2.2.2.2.2.2.2.2.2.2.2.2.2.2.2.1 == 0 && true)))) && true))))) fun v5 =>
 K v5))))
def Xfoot_Right : Tfoot_Right := Yfoot_Right Xfoot_kind Xrule_Right
def Jfoot_Right (X : Tfoot_Right) : Inst := mkI 55 pL65 .nil pL11 .nil X
def Ifoot_Right : Inst := Jfoot_Right Xfoot_Right
theorem Efoot_Right (xfoot_kind : Tfoot_kind) (xrule_Right : Trule_Right) : EqF Tryz.prog 27 gives Tryz.f55 [Jfoot_kind xfoot_kind, Jrule_Right xrule_Right] [] (Jfoot_Right (Yfoot_Right xfoot_kind xrule_Right)) := fun x y K => by kernel_rfl
theorem Ifoot_Right_ok : InstOk Tryz.prog G.1 Ifoot_Right := iok (gives := gives) [] (okCons Ifoot_kind_ok (okCons Irule_Right_ok okNil)) 27 follows Tryz.func55 (by kernel_rfl) (fun x => by kernel_rfl) (Efoot_Right Xfoot_kind Xrule_Right)

/- (*epact/foot.reader).summer -/
abbrev Tfoot_reader_summer : Type := ByteArray → Int → Bool → ByteArray → Int → Bool → ByteArray → Bool → Int → Int → Int → Int → Int → Int → Int → Int → Int → Int → (Bool → ByteArray → Int → Bool → ByteArray → Int → Bool → ByteArray → Bool → Int → Int → Int → Int → Int → Int → Int → Int → Int → Int → Prop) → Prop
def Yfoot_reader_summer (xfoot_reader_name : Tfoot_reader_name) (xrule_Time : Trule_Time) (a0 : ByteArray) (a1 : Int) (a2 : Bool) (a3 : ByteArray) (a4 : Int) (a5 : Bool) (a6 : ByteArray) (a7 : Bool) (a8 : Int) (a9 : Int) (a10 : Int) (a11 : Int) (a12 : Int) (a13 : Int) (a14 : Int) (a15 : Int) (a16 : Int) (a17 : Int) (K : Bool → ByteArray → Int → Bool → ByteArray → Int → Bool → ByteArray → Bool → Int → Int → Int → Int → Int → Int → Int → Int → Int → Int → Prop) : Prop :=
 xfoot_reader_name a0 a1 a2 a3 a4 a5 a6 a7 a8 a9 a10 a11 a12 a13 a14 a15 a16 a17 (fun r18 r19 r20 r21 r22 r23 r24 r25 r26 r27 r28 r29 r30 r31 r32 r33 r34 r35 r36 r37 =>
 xrule_Time r20 (fun r38 r39 r40 =>
 (if r40 then
 K r19 r39 r21 r22 r23 (w64 (0 - r38)) true r18 true r28 r29 r30 r31 r32 r33 r34 r35 r36 r37
 else
 K r19 r20 r21 r22 r23 (w64 (r21 + 3600)) true r18 true r28 r29 r30 r31 r32 r33 r34 r35 r36 r37)))
def Xfoot_reader_summer : Tfoot_reader_summer := Yfoot_reader_summer Xfoot_reader_name Xrule_Time
def Jfoot_reader_summer (X : Tfoot_reader_summer) : Inst := mkI 52 pL55 pH56 pL11 pH56 X
def Ifoot_reader_summer : Inst := Jfoot_reader_summer Xfoot_reader_summer
theorem Efoot_reader_summer (xfoot_reader_name : Tfoot_reader_name) (xrule_Time : Trule_Time) : EqF Tryz.prog 50 gives Tryz.f52 [Jfoot_reader_name xfoot_reader_name, Jrule_Time xrule_Time] [] (Jfoot_reader_summer (Yfoot_reader_summer xfoot_reader_name xrule_Time)) := fun x y K => by kernel_rfl
theorem Ifoot_reader_summer_ok : InstOk Tryz.prog G.1 Ifoot_reader_summer := iok (gives := gives) [] (okCons Ifoot_reader_name_ok (okCons Irule_Time_ok okNil)) 50 follows Tryz.func52 (by kernel_rfl) (fun x => by kernel_rfl) (Efoot_reader_summer Xfoot_reader_name Xrule_Time)

/- epact/rule.number -/
abbrev Trule_number : Type := ByteArray → Int → (Int → ByteArray → Bool → Prop) → Prop
def Yrule_number (xrule_digits : Trule_digits) (xatoi : Tatoi) (a0 : ByteArray) (a1 : Int) (K : Int → ByteArray → Bool → Prop) : Prop :=
 xrule_digits a0 (fun r2 =>
 (if (r2 == 0) then
 K 0 a0 false
 else
 (if decide (r2 > a1) then
 K 0 a0 false
 else
 (if 0 ≤ r2 ∧ r2 ≤ (↑(ByteArray.size a0) : Int) then
 (if (0 :Int) ≤ 0 ∧ 0 ≤ r2 then
 xatoi (ByteArray.extract a0 (0 : Nat) (Int.toNat r2)) (fun r3 r4 =>
 (if 0 ≤ (↑(ByteArray.size a0) : Int) ∧ (↑(ByteArray.size a0) : Int) ≤ (↑(ByteArray.size a0) : Int) then
 (if 0 ≤ r2 ∧ r2 ≤ (↑(ByteArray.size a0) : Int) then
 K r3 (ByteArray.extract a0 (Int.toNat r2) (Int.toNat (↑(ByteArray.size a0) : Int))) true
 else
 False)
 else
 False))
 else
 False)
 else
 False))))
def Xrule_number : Trule_number := Yrule_number Xrule_digits Xatoi
def Jrule_number (X : Trule_number) : Inst := mkI 161 pL66 .nil pL60 .nil X
def Irule_number : Inst := Jrule_number Xrule_number
theorem Erule_number (xrule_digits : Trule_digits) (xatoi : Tatoi) : EqF Tryz.prog 29 gives Tryz.f161 [Jrule_digits xrule_digits, Jatoi xatoi] [] (Jrule_number (Yrule_number xrule_digits xatoi)) := fun x y K => by kernel_rfl
theorem Irule_number_ok : InstOk Tryz.prog G.1 Irule_number := iok (gives := gives) [] (okCons Irule_digits_ok (okCons Iatoi_ok okNil)) 29 follows Tryz.func161 (by kernel_rfl) (fun x => by kernel_rfl) (Erule_number Xrule_digits Xatoi)

/- epact/rule.week -/
abbrev Trule_week : Type := ByteArray → (Q62 → ByteArray → Bool → Prop) → Prop
def Yrule_week (xrule_number : Trule_number) (xstrings_CutPrefix : Tstrings_CutPrefix) (a0 : ByteArray) (K : Q62 → ByteArray → Bool → Prop) : Prop :=
 xrule_number a0 2 (fun r1 r2 r3 =>
 xstrings_CutPrefix r2 (ByteArray.mk #[(46 : UInt8)]) (fun r4 r5 =>
 xrule_number r4 1 (fun r6 r7 r8 =>
 xstrings_CutPrefix r7 (ByteArray.mk #[(46 : UInt8)]) (fun r9 r10 =>
 xrule_number r9 1 (fun r11 r12 r13 =>
 (if r3 then
 (if r8 then
 (if r13 then
 (if r5 then
 K (0, r1, r6, r11, 0, ()) r12 r10
 else
 K (0, r1, r6, r11, 0, ()) r12 false)
 else
 K (0, r1, r6, r11, 0, ()) r12 false)
 else
 K (0, r1, r6, r11, 0, ()) r12 false)
 else
 K (0, r1, r6, r11, 0, ()) r12 false))))))
def Xrule_week : Trule_week := Yrule_week Xrule_number Xstrings_CutPrefix
def Jrule_week (X : Trule_week) : Inst := mkI 160 pL18 .nil pL67 .nil X
def Irule_week : Inst := Jrule_week Xrule_week
theorem Erule_week (xrule_number : Trule_number) (xstrings_CutPrefix : Tstrings_CutPrefix) : EqF Tryz.prog 63 gives Tryz.f160 [Jrule_number xrule_number, Jstrings_CutPrefix xstrings_CutPrefix] [] (Jrule_week (Yrule_week xrule_number xstrings_CutPrefix)) := fun x y K => by kernel_rfl
theorem Irule_week_ok : InstOk Tryz.prog G.1 Irule_week := iok (gives := gives) [] (okCons Irule_number_ok (okCons Istrings_CutPrefix_ok okNil)) 63 follows Tryz.func160 (by kernel_rfl) (fun x => by kernel_rfl) (Erule_week Xrule_number Xstrings_CutPrefix)

/- epact/rule.date -/
abbrev Trule_date : Type := ByteArray → (Q62 → ByteArray → Bool → Prop) → Prop
def Yrule_date (xstrings_CutPrefix : Tstrings_CutPrefix) (xrule_week : Trule_week) (xrule_number : Trule_number) (a0 : ByteArray) (K : Q62 → ByteArray → Bool → Prop) : Prop :=
 xstrings_CutPrefix a0 (ByteArray.mk #[(77 : UInt8)]) (fun r1 r2 =>
 (if r2 then
 xrule_week r1 (fun r3 r4 r5 =>
 K r3 r4 r5)
 else
 xstrings_CutPrefix a0 (ByteArray.mk #[(74 : UInt8)]) (fun r6 r7 =>
 (if r7 then
 xrule_number r6 3 (fun r8 r9 r10 =>
 K (1, r8, 0, 0, 0, ()) r9 r10)
 else
 xrule_number r6 3 (fun r11 r12 r13 =>
 K (2, r11, 0, 0, 0, ()) r12 r13)))))
def Xrule_date : Trule_date := Yrule_date Xstrings_CutPrefix Xrule_week Xrule_number
def Jrule_date (X : Trule_date) : Inst := mkI 145 pL18 .nil pL67 .nil X
def Irule_date : Inst := Jrule_date Xrule_date
theorem Erule_date (xstrings_CutPrefix : Tstrings_CutPrefix) (xrule_week : Trule_week) (xrule_number : Trule_number) : EqF Tryz.prog 38 gives Tryz.f145 [Jstrings_CutPrefix xstrings_CutPrefix, Jrule_week xrule_week, Jrule_number xrule_number] [] (Jrule_date (Yrule_date xstrings_CutPrefix xrule_week xrule_number)) := fun x y K => by kernel_rfl
theorem Irule_date_ok : InstOk Tryz.prog G.1 Irule_date := iok (gives := gives) [] (okCons Istrings_CutPrefix_ok (okCons Irule_week_ok (okCons Irule_number_ok okNil))) 38 follows Tryz.func145 (by kernel_rfl) (fun x => by kernel_rfl) (Erule_date Xstrings_CutPrefix Xrule_week Xrule_number)

/- epact/rule.Parse -/
abbrev Trule_Parse : Type := ByteArray → (Q62 → ByteArray → Bool → Prop) → Prop
def Yrule_Parse (xrule_date : Trule_date) (xstrings_CutPrefix : Tstrings_CutPrefix) (xrule_Time : Trule_Time) (xrule_Right : Trule_Right) (a0 : ByteArray) (K : Q62 → ByteArray → Bool → Prop) : Prop :=
 xrule_date a0 (fun r1 r2 r3 =>
 xstrings_CutPrefix r2 (ByteArray.mk #[(47 : UInt8)]) (fun r4 r5 =>
 (if r3 then
 (if r5 then
 xrule_Time r4 (fun r6 r7 r8 =>
 (if (!r8) then
 K (0, 0, 0, 0, 0, ()) a0 false
 else
 xrule_Right (r1.1, r1.2.1, r1.2.2.1, r1.2.2.2.1, r6, ()) (fun r9 =>
 (if (!r9) then
 K (0, 0, 0, 0, 0, ()) a0 false
 else
 K (r1.1, r1.2.1, r1.2.2.1, r1.2.2.2.1, r6, ()) r7 true))))
 else
 (if (!r3) then
 K (0, 0, 0, 0, 0, ()) a0 false
 else
 xrule_Right (r1.1, r1.2.1, r1.2.2.1, r1.2.2.2.1, 7200, ()) (fun r10 =>
 (if (!r10) then
 K (0, 0, 0, 0, 0, ()) a0 false
 else
 K (r1.1, r1.2.1, r1.2.2.1, r1.2.2.2.1, 7200, ()) r2 true))))
 else
 (if (!r3) then
 K (0, 0, 0, 0, 0, ()) a0 false
 else
 xrule_Right (r1.1, r1.2.1, r1.2.2.1, r1.2.2.2.1, 7200, ()) (fun r11 =>
 (if (!r11) then
 K (0, 0, 0, 0, 0, ()) a0 false
 else
 K (r1.1, r1.2.1, r1.2.2.1, r1.2.2.2.1, 7200, ()) r2 true))))))
def Xrule_Parse : Trule_Parse := Yrule_Parse Xrule_date Xstrings_CutPrefix Xrule_Time Xrule_Right
def Jrule_Parse (X : Trule_Parse) : Inst := mkI 127 pL18 .nil pL67 .nil X
def Irule_Parse : Inst := Jrule_Parse Xrule_Parse
theorem Erule_Parse (xrule_date : Trule_date) (xstrings_CutPrefix : Tstrings_CutPrefix) (xrule_Time : Trule_Time) (xrule_Right : Trule_Right) : EqF Tryz.prog 44 gives Tryz.f127 [Jrule_date xrule_date, Jstrings_CutPrefix xstrings_CutPrefix, Jrule_Time xrule_Time, Jrule_Right xrule_Right] [] (Jrule_Parse (Yrule_Parse xrule_date xstrings_CutPrefix xrule_Time xrule_Right)) := fun x y K => by kernel_rfl
theorem Irule_Parse_ok : InstOk Tryz.prog G.1 Irule_Parse := iok (gives := gives) [] (okCons Irule_date_ok (okCons Istrings_CutPrefix_ok (okCons Irule_Time_ok (okCons Irule_Right_ok okNil)))) 44 follows Tryz.func127 (by kernel_rfl) (fun x => by kernel_rfl) (Erule_Parse Xrule_date Xstrings_CutPrefix Xrule_Time Xrule_Right)

/- (*epact/foot.reader).rule -/
abbrev Tfoot_reader_rule : Type := ByteArray → Int → Bool → ByteArray → Int → Bool → ByteArray → Bool → Int → Int → Int → Int → Int → Int → Int → Int → Int → Int → (Bool → ByteArray → Int → Bool → ByteArray → Int → Bool → ByteArray → Bool → Int → Int → Int → Int → Int → Int → Int → Int → Int → Int → Prop) → Prop
def Yfoot_reader_rule (xstrings_CutPrefix : Tstrings_CutPrefix) (xrule_Parse : Trule_Parse) (a0 : ByteArray) (a1 : Int) (a2 : Bool) (a3 : ByteArray) (a4 : Int) (a5 : Bool) (a6 : ByteArray) (a7 : Bool) (a8 : Int) (a9 : Int) (a10 : Int) (a11 : Int) (a12 : Int) (a13 : Int) (a14 : Int) (a15 : Int) (a16 : Int) (a17 : Int) (K : Bool → ByteArray → Int → Bool → ByteArray → Int → Bool → ByteArray → Bool → Int → Int → Int → Int → Int → Int → Int → Int → Int → Int → Prop) : Prop :=
 xstrings_CutPrefix a0 (ByteArray.mk #[(44 : UInt8)]) (fun r18 r19 =>
 xrule_Parse r18 (fun r20 r21 r22 =>
 (if r22 then
 K r19 r21 a1 a2 a3 a4 a5 a6 a7 r20.1 r20.2.1 r20.2.2.1 r20.2.2.2.1 r20.2.2.2.2.1 a13 a14 a15 a16 a17
 else
 K false r21 a1 a2 a3 a4 a5 a6 a7 r20.1 r20.2.1 r20.2.2.1 r20.2.2.2.1 r20.2.2.2.2.1 a13 a14 a15 a16 a17)))
def Xfoot_reader_rule : Tfoot_reader_rule := Yfoot_reader_rule Xstrings_CutPrefix Xrule_Parse
def Jfoot_reader_rule (X : Tfoot_reader_rule) : Inst := mkI 90 pL68 pH56 pL11 pH56 X
def Ifoot_reader_rule : Inst := Jfoot_reader_rule Xfoot_reader_rule
theorem Efoot_reader_rule (xstrings_CutPrefix : Tstrings_CutPrefix) (xrule_Parse : Trule_Parse) : EqF Tryz.prog 30 gives Tryz.f90 [Jstrings_CutPrefix xstrings_CutPrefix, Jrule_Parse xrule_Parse] [] (Jfoot_reader_rule (Yfoot_reader_rule xstrings_CutPrefix xrule_Parse)) := fun x y K => by kernel_rfl
theorem Ifoot_reader_rule_ok : InstOk Tryz.prog G.1 Ifoot_reader_rule := iok (gives := gives) [] (okCons Istrings_CutPrefix_ok (okCons Irule_Parse_ok okNil)) 30 follows Tryz.func90 (by kernel_rfl) (fun x => by kernel_rfl) (Efoot_reader_rule Xstrings_CutPrefix Xrule_Parse)

/- (*epact/foot.reader).from -/
abbrev Tfoot_reader_from : Type := ByteArray → Int → Bool → ByteArray → Int → Bool → ByteArray → Bool → Int → Int → Int → Int → Int → Int → Int → Int → Int → Int → (Bool → ByteArray → Int → Bool → ByteArray → Int → Bool → ByteArray → Bool → Int → Int → Int → Int → Int → Int → Int → Int → Int → Int → Prop) → Prop
def Yfoot_reader_from (xfoot_reader_rule : Tfoot_reader_rule) (a0 : ByteArray) (a1 : Int) (a2 : Bool) (a3 : ByteArray) (a4 : Int) (a5 : Bool) (a6 : ByteArray) (a7 : Bool) (a8 : Int) (a9 : Int) (a10 : Int) (a11 : Int) (a12 : Int) (a13 : Int) (a14 : Int) (a15 : Int) (a16 : Int) (a17 : Int) (K : Bool → ByteArray → Int → Bool → ByteArray → Int → Bool → ByteArray → Bool → Int → Int → Int → Int → Int → Int → Int → Int → Int → Int → Prop) : Prop :=
 xfoot_reader_rule a0 a1 a2 a3 a4 a5 a6 a7 a8 a9 a10 a11 a12 a13 a14 a15 a16 a17 (fun r18 r19 r20 r21 r22 r23 r24 r25 r26 r27 r28 r29 r30 r31 r32 r33 r34 r35 r36 =>
 K r18 r19 r20 r21 r22 r23 r24 r25 r26 r27 r28 r29 r30 r31 r32 r33 r34 r35 r36)
def Xfoot_reader_from : Tfoot_reader_from := Yfoot_reader_from Xfoot_reader_rule
def Jfoot_reader_from (X : Tfoot_reader_from) : Inst := mkI 53 pL55 pH56 pL11 pH56 X
def Ifoot_reader_from : Inst := Jfoot_reader_from Xfoot_reader_from
theorem Efoot_reader_from (xfoot_reader_rule : Tfoot_reader_rule) : EqF Tryz.prog 9 gives Tryz.f53 [Jfoot_reader_rule xfoot_reader_rule] [] (Jfoot_reader_from (Yfoot_reader_from xfoot_reader_rule)) := fun x y K => by kernel_rfl
theorem Ifoot_reader_from_ok : InstOk Tryz.prog G.1 Ifoot_reader_from := iok (gives := gives) [] (okCons Ifoot_reader_rule_ok okNil) 9 follows Tryz.func53 (by kernel_rfl) (fun x => by kernel_rfl) (Efoot_reader_from Xfoot_reader_rule)

/- (*epact/foot.reader).rule -/
abbrev Tfoot_reader_rule_1 : Type := ByteArray → Int → Bool → ByteArray → Int → Bool → ByteArray → Bool → Int → Int → Int → Int → Int → Int → Int → Int → Int → Int → (Bool → ByteArray → Int → Bool → ByteArray → Int → Bool → ByteArray → Bool → Int → Int → Int → Int → Int → Int → Int → Int → Int → Int → Prop) → Prop
def Yfoot_reader_rule_1 (xstrings_CutPrefix : Tstrings_CutPrefix) (xrule_Parse : Trule_Parse) (a0 : ByteArray) (a1 : Int) (a2 : Bool) (a3 : ByteArray) (a4 : Int) (a5 : Bool) (a6 : ByteArray) (a7 : Bool) (a8 : Int) (a9 : Int) (a10 : Int) (a11 : Int) (a12 : Int) (a13 : Int) (a14 : Int) (a15 : Int) (a16 : Int) (a17 : Int) (K : Bool → ByteArray → Int → Bool → ByteArray → Int → Bool → ByteArray → Bool → Int → Int → Int → Int → Int → Int → Int → Int → Int → Int → Prop) : Prop :=
 xstrings_CutPrefix a0 (ByteArray.mk #[(44 : UInt8)]) (fun r18 r19 =>
 xrule_Parse r18 (fun r20 r21 r22 =>
 (if r22 then
 K r19 r21 a1 a2 a3 a4 a5 a6 a7 a8 a9 a10 a11 a12 r20.1 r20.2.1 r20.2.2.1 r20.2.2.2.1 r20.2.2.2.2.1
 else
 K false r21 a1 a2 a3 a4 a5 a6 a7 a8 a9 a10 a11 a12 r20.1 r20.2.1 r20.2.2.1 r20.2.2.2.1 r20.2.2.2.2.1)))
def Xfoot_reader_rule_1 : Tfoot_reader_rule_1 := Yfoot_reader_rule_1 Xstrings_CutPrefix Xrule_Parse
def Jfoot_reader_rule_1 (X : Tfoot_reader_rule_1) : Inst := mkI 90 pL69 pH56 pL11 pH56 X
def Ifoot_reader_rule_1 : Inst := Jfoot_reader_rule_1 Xfoot_reader_rule_1
theorem Efoot_reader_rule_1 (xstrings_CutPrefix : Tstrings_CutPrefix) (xrule_Parse : Trule_Parse) : EqF Tryz.prog 30 gives Tryz.f90 [Jstrings_CutPrefix xstrings_CutPrefix, Jrule_Parse xrule_Parse] [] (Jfoot_reader_rule_1 (Yfoot_reader_rule_1 xstrings_CutPrefix xrule_Parse)) := fun x y K => by kernel_rfl
theorem Ifoot_reader_rule_1_ok : InstOk Tryz.prog G.1 Ifoot_reader_rule_1 := iok (gives := gives) [] (okCons Istrings_CutPrefix_ok (okCons Irule_Parse_ok okNil)) 30 follows Tryz.func90 (by kernel_rfl) (fun x => by kernel_rfl) (Efoot_reader_rule_1 Xstrings_CutPrefix Xrule_Parse)

/- (*epact/foot.reader).to -/
abbrev Tfoot_reader_to : Type := ByteArray → Int → Bool → ByteArray → Int → Bool → ByteArray → Bool → Int → Int → Int → Int → Int → Int → Int → Int → Int → Int → (Bool → ByteArray → Int → Bool → ByteArray → Int → Bool → ByteArray → Bool → Int → Int → Int → Int → Int → Int → Int → Int → Int → Int → Prop) → Prop
def Yfoot_reader_to (xfoot_reader_rule_1 : Tfoot_reader_rule_1) (a0 : ByteArray) (a1 : Int) (a2 : Bool) (a3 : ByteArray) (a4 : Int) (a5 : Bool) (a6 : ByteArray) (a7 : Bool) (a8 : Int) (a9 : Int) (a10 : Int) (a11 : Int) (a12 : Int) (a13 : Int) (a14 : Int) (a15 : Int) (a16 : Int) (a17 : Int) (K : Bool → ByteArray → Int → Bool → ByteArray → Int → Bool → ByteArray → Bool → Int → Int → Int → Int → Int → Int → Int → Int → Int → Int → Prop) : Prop :=
 xfoot_reader_rule_1 a0 a1 a2 a3 a4 a5 a6 a7 a8 a9 a10 a11 a12 a13 a14 a15 a16 a17 (fun r18 r19 r20 r21 r22 r23 r24 r25 r26 r27 r28 r29 r30 r31 r32 r33 r34 r35 r36 =>
 K r18 r19 r20 r21 r22 r23 r24 r25 r26 r27 r28 r29 r30 r31 r32 r33 r34 r35 r36)
def Xfoot_reader_to : Tfoot_reader_to := Yfoot_reader_to Xfoot_reader_rule_1
def Jfoot_reader_to (X : Tfoot_reader_to) : Inst := mkI 54 pL55 pH56 pL11 pH56 X
def Ifoot_reader_to : Inst := Jfoot_reader_to Xfoot_reader_to
theorem Efoot_reader_to (xfoot_reader_rule_1 : Tfoot_reader_rule_1) : EqF Tryz.prog 9 gives Tryz.f54 [Jfoot_reader_rule_1 xfoot_reader_rule_1] [] (Jfoot_reader_to (Yfoot_reader_to xfoot_reader_rule_1)) := fun x y K => by kernel_rfl
theorem Ifoot_reader_to_ok : InstOk Tryz.prog G.1 Ifoot_reader_to := iok (gives := gives) [] (okCons Ifoot_reader_rule_1_ok okNil) 9 follows Tryz.func54 (by kernel_rfl) (fun x => by kernel_rfl) (Efoot_reader_to Xfoot_reader_rule_1)

/- epact/foot.Parse -/
abbrev Tfoot_Parse : Type := ByteArray → (Q64 → Bool → Prop) → Prop
def Lfoot_Parse_0p : Lp := ⟨1835036, [], .nil, .nil, 12⟩
def Yfoot_Parse (xfoot_reader_usual : Tfoot_reader_usual) (xfoot_Right : Tfoot_Right) (xfoot_reader_summer : Tfoot_reader_summer) (xfoot_reader_from : Tfoot_reader_from) (xfoot_reader_to : Tfoot_reader_to) (a0 : ByteArray) (K : Q64 → Bool → Prop) : Prop :=
 xfoot_reader_usual a0 0 false (ByteArray.mk #[]) 0 false (ByteArray.mk #[]) false 0 0 0 0 0 0 0 0 0 0 (fun r1 r2 r3 r4 r5 r6 r7 r8 r9 r10 r11 r12 r13 r14 r15 r16 r17 r18 r19 =>
 (if (!r1) then
 K (0, false, ByteArray.mk #[], 0, false, ByteArray.mk #[], false, 0, 0, 0, 0, 0, 0, 0, 0, 0, 0, ()) false
 else
 (if (ByteArray.toList r2 == ByteArray.toList (ByteArray.mk #[])) then
 (if (!ByteArray.toList r2 == ByteArray.toList (ByteArray.mk #[])) then
 K (0, false, ByteArray.mk #[], 0, false, ByteArray.mk #[], false, 0, 0, 0, 0, 0, 0, 0, 0, 0, 0, ()) false
 else
 xfoot_Right (r3, r4, r5, r6, r7, r8, r9, r10, r11, r12, r13, r14, r15, r16, r17, r18, r19, ()) (fun r20 =>
 (if (!r20) then
 K (0, false, ByteArray.mk #[], 0, false, ByteArray.mk #[], false, 0, 0, 0, 0, 0, 0, 0, 0, 0, 0, ()) false
 else
 K (r3, r4, r5, r6, r7, r8, r9, r10, r11, r12, r13, r14, r15, r16, r17, r18, r19, ()) true)))
 else
 xfoot_reader_summer r2 r3 r4 r5 r6 r7 r8 r9 r10 r11 r12 r13 r14 r15 r16 r17 r18 r19 (fun r21 r22 r23 r24 r25 r26 r27 r28 r29 r30 r31 r32 r33 r34 r35 r36 r37 r38 r39 =>
 (if (!r21) then
 K (0, false, ByteArray.mk #[], 0, false, ByteArray.mk #[], false, 0, 0, 0, 0, 0, 0, 0, 0, 0, 0, ()) false
 else
 xfoot_reader_from r22 r23 r24 r25 r26 r27 r28 r29 r30 r31 r32 r33 r34 r35 r36 r37 r38 r39 (fun r40 r41 r42 r43 r44 r45 r46 r47 r48 r49 r50 r51 r52 r53 r54 r55 r56 r57 r58 =>
 (if (!r40) then
 K (0, false, ByteArray.mk #[], 0, false, ByteArray.mk #[], false, 0, 0, 0, 0, 0, 0, 0, 0, 0, 0, ()) false
 else
 xfoot_reader_to r41 r42 r43 r44 r45 r46 r47 r48 r49 r50 r51 r52 r53 r54 r55 r56 r57 r58 (fun r59 r60 r61 r62 r63 r64 r65 r66 r67 r68 r69 r70 r71 r72 r73 r74 r75 r76 r77 =>
 (if (!r59) then
 K (0, false, ByteArray.mk #[], 0, false, ByteArray.mk #[], false, 0, 0, 0, 0, 0, 0, 0, 0, 0, 0, ()) false
 else
 (if (!ByteArray.toList r60 == ByteArray.toList (ByteArray.mk #[])) then
 K (0, false, ByteArray.mk #[], 0, false, ByteArray.mk #[], false, 0, 0, 0, 0, 0, 0, 0, 0, 0, 0, ()) false
 else
 xfoot_Right (r61, r62, r63, r64, r65, r66, r67, r68, r69, r70, r71, r72, r73, r74, r75, r76, r77, ()) (fun r78 =>
 (if (!r78) then
 K (0, false, ByteArray.mk #[], 0, false, ByteArray.mk #[], false, 0, 0, 0, 0, 0, 0, 0, 0, 0, 0, ()) false
 else
 K (r61, r62, r63, r64, r65, r66, r67, r68, r69, r70, r71, r72, r73, r74, r75, r76, r77, ()) true))))))))))))
def Xfoot_Parse : Tfoot_Parse := Yfoot_Parse Xfoot_reader_usual Xfoot_Right Xfoot_reader_summer Xfoot_reader_from Xfoot_reader_to
def Jfoot_Parse (X : Tfoot_Parse) : Inst := mkI 22 pL18 .nil pL70 .nil X
def Ifoot_Parse : Inst := Jfoot_Parse Xfoot_Parse
theorem Efoot_Parse (xfoot_reader_usual : Tfoot_reader_usual) (xfoot_Right : Tfoot_Right) (xfoot_reader_summer : Tfoot_reader_summer) (xfoot_reader_from : Tfoot_reader_from) (xfoot_reader_to : Tfoot_reader_to) : EqF Tryz.prog 57 gives Tryz.f22 [Jfoot_reader_usual xfoot_reader_usual, Jfoot_Right xfoot_Right, Jfoot_reader_summer xfoot_reader_summer, Jfoot_reader_from xfoot_reader_from, Jfoot_reader_to xfoot_reader_to] [Lfoot_Parse_0p] (Jfoot_Parse (Yfoot_Parse xfoot_reader_usual xfoot_Right xfoot_reader_summer xfoot_reader_from xfoot_reader_to)) := fun x y K => by kernel_rfl
theorem Ifoot_Parse_ok : InstOk Tryz.prog G.1 Ifoot_Parse := iok (gives := gives) [Lfoot_Parse_0p] (okCons Ifoot_reader_usual_ok (okCons Ifoot_Right_ok (okCons Ifoot_reader_summer_ok (okCons Ifoot_reader_from_ok (okCons Ifoot_reader_to_ok okNil))))) 57 follows Tryz.func22 (by kernel_rfl) (fun x => by kernel_rfl) (Efoot_Parse Xfoot_reader_usual Xfoot_Right Xfoot_reader_summer Xfoot_reader_from Xfoot_reader_to)

/- epact/zone.odd -/
abbrev Tzone_odd : Type := Q62 → (Bool → Prop) → Prop
def Yzone_odd (a0 : Q62) (K : Bool → Prop) : Prop :=
 (if decide (a0.2.2.2.2.1 < 0) then
 K true
 else
 K (decide (a0.2.2.2.2.1 > 86400)))
def Xzone_odd : Tzone_odd := Yzone_odd
def Jzone_odd (X : Tzone_odd) : Inst := mkI 73 pL63 .nil pL11 .nil X
def Izone_odd : Inst := Jzone_odd Xzone_odd
theorem Ezone_odd : EqF Tryz.prog 11 gives Tryz.f73 [] [] (Jzone_odd (Yzone_odd)) := fun x y K => by kernel_rfl
theorem Izone_odd_ok : InstOk Tryz.prog G.1 Izone_odd := iok (gives := gives) [] okNil 11 follows Tryz.func73 (by kernel_rfl) (fun x => by kernel_rfl) (Ezone_odd)

/- epact/zone.ends -/
abbrev Tzone_ends : Type := Q5 → (Bool → Prop) → Prop
def Yzone_ends (xfoot_Parse : Tfoot_Parse) (xzone_odd : Tzone_odd) (a0 : Q5) (K : Bool → Prop) : Prop :=
 (if (ByteArray.toList a0.2.2.2.1 == ByteArray.toList (ByteArray.mk #[])) then
 K true
 else
 xfoot_Parse a0.2.2.2.1 (fun r1 r2 =>
 xzone_odd (r1.2.2.2.2.2.2.2.1, r1.2.2.2.2.2.2.2.2.1, r1.2.2.2.2.2.2.2.2.2.1, r1.2.2.2.2.2.2.2.2.2.2.1, r1.2.2.2.2.2.2.2.2.2.2.2.1, ()) (fun r3 =>
 (if r3 then
 (if r2 then
 K (decide (a0.2.2.2.2.1 ≥ 3))
 else
 K false)
 else
 xzone_odd r1.2.2.2.2.2.2.2.2.2.2.2.2 (fun r4 =>
 (if r4 then
 (if r2 then
 K (decide (a0.2.2.2.2.1 ≥ 3))
 else
 K false)
 else
 (if r2 then
 K (decide (a0.2.2.2.2.1 ≥ 2))
 else
 K false)))))))
def Xzone_ends : Tzone_ends := Yzone_ends Xfoot_Parse Xzone_odd
def Jzone_ends (X : Tzone_ends) : Inst := mkI 34 pL7 .nil pL11 .nil X
def Izone_ends : Inst := Jzone_ends Xzone_ends
theorem Ezone_ends (xfoot_Parse : Tfoot_Parse) (xzone_odd : Tzone_odd) : EqF Tryz.prog 32 gives Tryz.f34 [Jfoot_Parse xfoot_Parse, Jzone_odd xzone_odd] [] (Jzone_ends (Yzone_ends xfoot_Parse xzone_odd)) := fun x y K => by kernel_rfl
theorem Izone_ends_ok : InstOk Tryz.prog G.1 Izone_ends := iok (gives := gives) [] (okCons Ifoot_Parse_ok (okCons Izone_odd_ok okNil)) 32 follows Tryz.func34 (by kernel_rfl) (fun x => by kernel_rfl) (Ezone_ends Xfoot_Parse Xzone_odd)

/- epact/zone.Right -/
abbrev Tzone_Right : Type := Q5 → (Bool → Prop) → Prop
def Yzone_Right (xblock_Count : Tblock_Count) (xrecord_Right : Trecord_Right) (xrecord_Expiry : Trecord_Expiry) (xzone_all_api_Type_ : Tzone_all_api_Type_) (xzone_all_api_Trans_ : Tzone_all_api_Trans_) (xzone_ends : Tzone_ends) (a0 : Q5) (K : Bool → Prop) : Prop :=
 xblock_Count a0 (fun r1 r2 =>
 (if (!r2) then
 K false
 else
 xrecord_Right a0.2.2.1 (fun r3 =>
 (if (!r3) then
 K false
 else
 xrecord_Expiry a0.2.2.1 (fun r4 r5 =>
 (if r5 then
 (if decide (a0.2.2.2.2.1 < 4) then
 K false
 else
 xzone_all_api_Type_ a0.1 (fun r6 =>
 xzone_all_api_Trans_ a0.2.1 a0.1 a0.2.1 a0.2.2.1 a0.2.2.2.1 a0.2.2.2.2.1 (fun r7 r8 r9 r10 r11 r12 r13 r14 r15 r16 r17 r18 =>
 (if r6 then
 (if r7 then
 xzone_ends (r10, r13, r16, r8, r9, ()) (fun r19 =>
 K r19)
 else
 K false)
 else
 K false))))
 else
 xzone_all_api_Type_ a0.1 (fun r20 =>
 xzone_all_api_Trans_ a0.2.1 a0.1 a0.2.1 a0.2.2.1 a0.2.2.2.1 a0.2.2.2.2.1 (fun r21 r22 r23 r24 r25 r26 r27 r28 r29 r30 r31 r32 =>
 (if r20 then
 (if r21 then
 xzone_ends (r24, r27, r30, r22, r23, ()) (fun r33 =>
 K r33)
 else
 K false)
 else
 K false)))))))))
def Xzone_Right : Tzone_Right := Yzone_Right Xblock_Count Xrecord_Right Xrecord_Expiry Xzone_all_api_Type_ Xzone_all_api_Trans_ Xzone_ends
def Jzone_Right (X : Tzone_Right) : Inst := mkI 11 pL7 .nil pL11 .nil X
def Izone_Right : Inst := Jzone_Right Xzone_Right
theorem Ezone_Right (xblock_Count : Tblock_Count) (xrecord_Right : Trecord_Right) (xrecord_Expiry : Trecord_Expiry) (xzone_all_api_Type_ : Tzone_all_api_Type_) (xzone_all_api_Trans_ : Tzone_all_api_Trans_) (xzone_ends : Tzone_ends) : EqF Tryz.prog 49 gives Tryz.f11 [Jblock_Count xblock_Count, Jrecord_Right xrecord_Right, Jrecord_Expiry xrecord_Expiry, Jzone_all_api_Type_ xzone_all_api_Type_, Jzone_all_api_Trans_ xzone_all_api_Trans_, Jzone_ends xzone_ends] [] (Jzone_Right (Yzone_Right xblock_Count xrecord_Right xrecord_Expiry xzone_all_api_Type_ xzone_all_api_Trans_ xzone_ends)) := fun x y K => by kernel_rfl
theorem Izone_Right_ok : InstOk Tryz.prog G.1 Izone_Right := iok (gives := gives) [] (okCons Iblock_Count_ok (okCons Irecord_Right_ok (okCons Irecord_Expiry_ok (okCons Izone_all_api_Type__ok (okCons Izone_all_api_Trans__ok (okCons Izone_ends_ok okNil)))))) 49 follows Tryz.func11 (by kernel_rfl) (fun x => by kernel_rfl) (Ezone_Right Xblock_Count Xrecord_Right Xrecord_Expiry Xzone_all_api_Type_ Xzone_all_api_Trans_ Xzone_ends)

/- epact/zone.Index$1 -/
abbrev Tzone_Index_1 : Type := Int → (List Eng.V) → (List Eng.V) → (List Eng.V) → ByteArray → Int → Int → (Bool → ByteArray → Int → Int → (List Eng.V) → Bool → Bool → (List Eng.V) → Bool → Bool → (List Eng.V) → Bool → Bool → Prop) → Prop
def Yzone_Index_1 (a0 : Int) (a1 : (List Eng.V)) (a2 : (List Eng.V)) (a3 : (List Eng.V)) (a4 : ByteArray) (a5 : Int) (a6 : Int) (K : Bool → ByteArray → Int → Int → (List Eng.V) → Bool → Bool → (List Eng.V) → Bool → Bool → (List Eng.V) → Bool → Bool → Prop) : Prop :=
 (if 0 ≤ a0 ∧ a0 < (↑(List.length a2) : Int) then
 (Eng.asInt IntKind.i64 (Eng.getC a2 (Int.toNat a0) (0 : Nat)) False fun n7 =>
 K (decide (n7 > a6)) a4 a5 a6 a1 false true a2 false true a3 false true)
 else
 False)
def Xzone_Index_1 : Tzone_Index_1 := Yzone_Index_1
def Jzone_Index_1 (X : Tzone_Index_1) : Inst := mkI 47 pL71 pH72 pL11 pH73 X
def Izone_Index_1 : Inst := Jzone_Index_1 Xzone_Index_1
theorem Ezone_Index_1 : EqF Tryz.prog 13 gives Tryz.f47 [] [] (Jzone_Index_1 (Yzone_Index_1)) := fun x y K => by kernel_rfl
theorem Izone_Index_1_ok : InstOk Tryz.prog G.1 Izone_Index_1 := iok (gives := gives) [] okNil 13 follows Tryz.func47 (by kernel_rfl) (fun x => by kernel_rfl) (Ezone_Index_1)

/- sort.Search -/
abbrev Tsort_Search : Type := Int → (List Eng.V) → (List Eng.V) → (List Eng.V) → ByteArray → Int → Int → (Int → ByteArray → Int → Int → (List Eng.V) → Bool → Bool → (List Eng.V) → Bool → Bool → (List Eng.V) → Bool → Bool → Prop) → Prop
def Lsort_Search_0 (xzone_Index_1 : Tzone_Index_1) (K : Int → ByteArray → Int → Int → (List Eng.V) → Bool → Bool → (List Eng.V) → Bool → Bool → (List Eng.V) → Bool → Bool → Prop) (a1 : (List Eng.V)) (a2 : (List Eng.V)) (a3 : (List Eng.V)) (a4 : ByteArray) (a5 : Int) (a6 : Int) : (Q74 → Prop) → Q74 → Prop := fun k7 x8 =>
 (if decide (x8.1.2.2.1 < x8.1.2.2.2.1) then
 (lt (Int.fdiv (wu64 (w64 (x8.1.2.2.1 + x8.1.2.2.2.1))) 2) fun v9 =>
 xzone_Index_1 (w64 v9) x8.2.1.1 x8.2.1.2.1 x8.2.1.2.2.1 x8.2.1.2.2.2.1 x8.2.1.2.2.2.2.1 x8.2.2.1.1 (fun r10 r11 r12 r13 r14 r15 r16 r17 r18 r19 r20 r21 r22 =>
 (if (!r10) then
 k7 ((((), (), (), ()), x8.1.2.1, w64 (w64 v9 + 1), x8.1.2.2.2), (r14, r17, r20, r11, r12, ()), (r13, ()), ())
 else
 k7 ((((), (), (), ()), x8.1.2.1, x8.1.2.2.1, w64 v9, ()), (r14, r17, r20, r11, r12, ()), (r13, ()), ()))))
 else
 K x8.1.2.2.1 x8.2.1.2.2.2.1 x8.2.1.2.2.2.2.1 x8.2.2.1.1 x8.2.1.1 false true x8.2.1.2.1 false true x8.2.1.2.2.1 false true)
def Lsort_Search_0p : Lp := ⟨114, [.trim 114, .thin 384, .trim 114, .thin 385, .trim 114, .thin 386, .trim 114], pT75, pH72, 0⟩
def Ysort_Search (xzone_Index_1 : Tzone_Index_1) (a0 : Int) (a1 : (List Eng.V)) (a2 : (List Eng.V)) (a3 : (List Eng.V)) (a4 : ByteArray) (a5 : Int) (a6 : Int) (K : Int → ByteArray → Int → Int → (List Eng.V) → Bool → Bool → (List Eng.V) → Bool → Bool → (List Eng.V) → Bool → Bool → Prop) : Prop :=
 lp (Lsort_Search_0 xzone_Index_1 K a1 a2 a3 a4 a5 a6) ((((), (), (), ()), 0, 0, a0, ()), (a1, a2, a3, a4, a5, ()), (a6, ()), ())
def Xsort_Search : Tsort_Search := Ysort_Search Xzone_Index_1
def Jsort_Search (X : Tsort_Search) : Inst := mkI 46 pL76 pH72 pL16 pH73 X
def Isort_Search : Inst := Jsort_Search Xsort_Search
theorem Esort_Search (xzone_Index_1 : Tzone_Index_1) : EqF Tryz.prog 26 gives Tryz.f46 [Jzone_Index_1 xzone_Index_1] [Lsort_Search_0p] (Jsort_Search (Ysort_Search xzone_Index_1)) := fun x y K => by kernel_rfl
theorem Isort_Search_ok : InstOk Tryz.prog G.1 Isort_Search := iok (gives := gives) [Lsort_Search_0p] (okCons Izone_Index_1_ok okNil) 26 follows Tryz.func46 (by kernel_rfl) (fun x => by kernel_rfl) (Esort_Search Xzone_Index_1)

/- epact/zone.Index -/
abbrev Tzone_Index : Type := Q5 → Int → (Int → Prop) → Prop
def Yzone_Index (xsort_Search : Tsort_Search) (a0 : Q5) (a1 : Int) (K : Int → Prop) : Prop :=
 xsort_Search (↑(List.length a0.2.1) : Int) a0.1 a0.2.1 a0.2.2.1 a0.2.2.2.1 a0.2.2.2.2.1 a1 (fun r2 r3 r4 r5 r6 r7 r8 r9 r10 r11 r12 r13 r14 =>
 K (w64 (r2 - 1)))
def Xzone_Index : Tzone_Index := Yzone_Index Xsort_Search
def Jzone_Index (X : Tzone_Index) : Inst := mkI 16 pL77 .nil pL16 .nil X
def Izone_Index : Inst := Jzone_Index Xzone_Index
theorem Ezone_Index (xsort_Search : Tsort_Search) : EqF Tryz.prog 11 gives Tryz.f16 [Jsort_Search xsort_Search] [] (Jzone_Index (Yzone_Index xsort_Search)) := fun x y K => by kernel_rfl
theorem Izone_Index_ok : InstOk Tryz.prog G.1 Izone_Index := iok (gives := gives) [] (okCons Isort_Search_ok okNil) 11 follows Tryz.func16 (by kernel_rfl) (fun x => by kernel_rfl) (Ezone_Index Xsort_Search)

/- epact/record.Sum$1 -/
abbrev Trecord_Sum_1 : Type := Int → Int → (List Eng.V) → Bool → Bool → (Bool → Int → (List Eng.V) → Bool → Bool → Prop) → Prop
def Yrecord_Sum_1 (a0 : Int) (a1 : Int) (a2 : (List Eng.V)) (a3 : Bool) (a4 : Bool) (K : Bool → Int → (List Eng.V) → Bool → Bool → Prop) : Prop :=
 (if 0 ≤ a0 ∧ a0 < (↑(List.length a2) : Int) then
 (Eng.asInt IntKind.i64 (Eng.getC a2 (Int.toNat a0) (0 : Nat)) False fun n5 =>
 K (decide (n5 > a1)) a1 a2 a3 a4)
 else
 False)
def Xrecord_Sum_1 : Trecord_Sum_1 := Yrecord_Sum_1
def Jrecord_Sum_1 (X : Trecord_Sum_1) : Inst := mkI 83 pL71 pH78 pL11 pH78 X
def Irecord_Sum_1 : Inst := Jrecord_Sum_1 Xrecord_Sum_1
theorem Erecord_Sum_1 : EqF Tryz.prog 12 gives Tryz.f83 [] [] (Jrecord_Sum_1 (Yrecord_Sum_1)) := fun x y K => by kernel_rfl
theorem Irecord_Sum_1_ok : InstOk Tryz.prog G.1 Irecord_Sum_1 := iok (gives := gives) [] okNil 12 follows Tryz.func83 (by kernel_rfl) (fun x => by kernel_rfl) (Erecord_Sum_1)

/- epact/record.Sum$1 -/
abbrev Trecord_Sum_1_1 : Type := Int → (List Eng.V) → Int → (Bool → Int → (List Eng.V) → Bool → Bool → Prop) → Prop
def Yrecord_Sum_1_1 (a0 : Int) (a1 : (List Eng.V)) (a2 : Int) (K : Bool → Int → (List Eng.V) → Bool → Bool → Prop) : Prop :=
 (if 0 ≤ a0 ∧ a0 < (↑(List.length a1) : Int) then
 (Eng.asInt IntKind.i64 (Eng.getC a1 (Int.toNat a0) (0 : Nat)) False fun n3 =>
 K (decide (n3 > a2)) a2 a1 false true)
 else
 False)
def Xrecord_Sum_1_1 : Trecord_Sum_1_1 := Yrecord_Sum_1_1
def Jrecord_Sum_1_1 (X : Trecord_Sum_1_1) : Inst := mkI 83 pL71 pH79 pL11 pH78 X
def Irecord_Sum_1_1 : Inst := Jrecord_Sum_1_1 Xrecord_Sum_1_1
theorem Erecord_Sum_1_1 : EqF Tryz.prog 12 gives Tryz.f83 [] [] (Jrecord_Sum_1_1 (Yrecord_Sum_1_1)) := fun x y K => by kernel_rfl
theorem Irecord_Sum_1_1_ok : InstOk Tryz.prog G.1 Irecord_Sum_1_1 := iok (gives := gives) [] okNil 12 follows Tryz.func83 (by kernel_rfl) (fun x => by kernel_rfl) (Erecord_Sum_1_1)

/- sort.Search -/
abbrev Tsort_Search_1 : Type := Int → Int → (List Eng.V) → Bool → Bool → (Int → Int → (List Eng.V) → Bool → Bool → Prop) → Prop
def Lsort_Search_1_0 (xrecord_Sum_1_1 : Trecord_Sum_1_1) (K : Int → Int → (List Eng.V) → Bool → Bool → Prop) (a1 : Int) (a2 : (List Eng.V)) (a3 : Bool) (a4 : Bool) : (Q80 → Prop) → Q80 → Prop := fun k5 x6 =>
 (if decide (x6.1.2.2.1 < x6.1.2.2.2.1) then
 (lt (Int.fdiv (wu64 (w64 (x6.1.2.2.1 + x6.1.2.2.2.1))) 2) fun v7 =>
 xrecord_Sum_1_1 (w64 v7) x6.2.1.1 x6.2.2.1.1 (fun r8 r9 r10 r11 r12 =>
 (if (!r8) then
 k5 ((((), (), (), ()), x6.1.2.1, w64 (w64 v7 + 1), x6.1.2.2.2), (r10, ()), (r9, ()), (x6.2.2.2.1.1, x6.2.2.2.1.2.1, true), ())
 else
 k5 ((((), (), (), ()), x6.1.2.1, x6.1.2.2.1, w64 v7, ()), (r10, ()), (r9, ()), (x6.2.2.2.1.1, x6.2.2.2.1.2.1, true), ()))))
 else
 K x6.1.2.2.1 x6.2.2.1.1 x6.2.1.1 false true)
def Lsort_Search_1_0p : Lp := ⟨114, [.trim 114, .thin 2, .trim 114, .thin 384, .trim 114], pT81, pH82, 0⟩
def Ysort_Search_1 (xrecord_Sum_1_1 : Trecord_Sum_1_1) (a0 : Int) (a1 : Int) (a2 : (List Eng.V)) (a3 : Bool) (a4 : Bool) (K : Int → Int → (List Eng.V) → Bool → Bool → Prop) : Prop :=
 lp (Lsort_Search_1_0 xrecord_Sum_1_1 K a1 a2 a3 a4) ((((), (), (), ()), 0, 0, a0, ()), (a2, ()), (a1, ()), (a2, a3, true), ())
def Xsort_Search_1 : Tsort_Search_1 := Ysort_Search_1 Xrecord_Sum_1_1
def Jsort_Search_1 (X : Tsort_Search_1) : Inst := mkI 46 pL83 pH78 pL16 pH78 X
def Isort_Search_1 : Inst := Jsort_Search_1 Xsort_Search_1
theorem Esort_Search_1 (xrecord_Sum_1_1 : Trecord_Sum_1_1) : EqF Tryz.prog 26 gives Tryz.f46 [Jrecord_Sum_1_1 xrecord_Sum_1_1] [Lsort_Search_1_0p] (Jsort_Search_1 (Ysort_Search_1 xrecord_Sum_1_1)) := fun x y K => by kernel_rfl
theorem Isort_Search_1_ok : InstOk Tryz.prog G.1 Isort_Search_1 := iok (gives := gives) [Lsort_Search_1_0p] (okCons Irecord_Sum_1_1_ok okNil) 26 follows Tryz.func46 (by kernel_rfl) (fun x => by kernel_rfl) (Esort_Search_1 Xrecord_Sum_1_1)

/- epact/record.Sum -/
abbrev Trecord_Sum : Type := (List Eng.V) → Int → (Int → Prop) → Prop
def Yrecord_Sum (xrecord_leaps : Trecord_leaps) (xsort_Search_1 : Tsort_Search_1) (a0 : (List Eng.V)) (a1 : Int) (K : Int → Prop) : Prop :=
 xrecord_leaps a0 (fun r2 r3 r4 =>
 xsort_Search_1 (↑(List.length r2) : Int) a1 r2 r3 r4 (fun r5 r6 r7 r8 r9 =>
 (if (r5 == 0) then
 K 0
 else
 (if 0 ≤ w64 (r5 - 1) ∧ w64 (r5 - 1) < (↑(List.length r7) : Int) then
 (Eng.asInt IntKind.i64 (Eng.getC r7 (Int.toNat (w64 (r5 - 1))) (1 : Nat)) False fun n10 =>
 K n10)
 else
 False))))
def Xrecord_Sum : Trecord_Sum := Yrecord_Sum Xrecord_leaps Xsort_Search_1
def Jrecord_Sum (X : Trecord_Sum) : Inst := mkI 48 pL84 .nil pL16 .nil X
def Irecord_Sum : Inst := Jrecord_Sum Xrecord_Sum
theorem Erecord_Sum (xrecord_leaps : Trecord_leaps) (xsort_Search_1 : Tsort_Search_1) : EqF Tryz.prog 20 gives Tryz.f48 [Jrecord_leaps xrecord_leaps, Jsort_Search_1 xsort_Search_1] [] (Jrecord_Sum (Yrecord_Sum xrecord_leaps xsort_Search_1)) := fun x y K => by kernel_rfl
theorem Irecord_Sum_ok : InstOk Tryz.prog G.1 Irecord_Sum := iok (gives := gives) [] (okCons Irecord_leaps_ok (okCons Isort_Search_1_ok okNil)) 20 follows Tryz.func48 (by kernel_rfl) (fun x => by kernel_rfl) (Erecord_Sum Xrecord_leaps Xsort_Search_1)

/- epact/zone.Posix -/
abbrev Tzone_Posix : Type := Q5 → Int → (Int → Prop) → Prop
def Yzone_Posix (xrecord_Sum : Trecord_Sum) (a0 : Q5) (a1 : Int) (K : Int → Prop) : Prop :=
 xrecord_Sum a0.2.2.1 a1 (fun r2 =>
 K (w64 (a1 - r2)))
def Xzone_Posix : Tzone_Posix := Yzone_Posix Xrecord_Sum
def Jzone_Posix (X : Tzone_Posix) : Inst := mkI 18 pL77 .nil pL16 .nil X
def Izone_Posix : Inst := Jzone_Posix Xzone_Posix
theorem Ezone_Posix (xrecord_Sum : Trecord_Sum) : EqF Tryz.prog 11 gives Tryz.f18 [Jrecord_Sum xrecord_Sum] [] (Jzone_Posix (Yzone_Posix xrecord_Sum)) := fun x y K => by kernel_rfl
theorem Izone_Posix_ok : InstOk Tryz.prog G.1 Izone_Posix := iok (gives := gives) [] (okCons Irecord_Sum_ok okNil) 11 follows Tryz.func18 (by kernel_rfl) (fun x => by kernel_rfl) (Ezone_Posix Xrecord_Sum)

/- epact/num.Add -/
abbrev Tnum_Add : Type := Int → Int → (Int → Bool → Prop) → Prop
def Ynum_Add (a0 : Int) (a1 : Int) (K : Int → Bool → Prop) : Prop :=
 (lt (!decide (w64 (a0 + a1) > a0) == decide (a1 > 0)) fun v2 =>
 (if v2 then
 (if (a1 != 0) then
 K 0 false
 else
 K (w64 (a0 + a1)) true)
 else
 K (w64 (a0 + a1)) true))
def Xnum_Add : Tnum_Add := Ynum_Add
def Jnum_Add (X : Tnum_Add) : Inst := mkI 56 pL32 .nil pL33 .nil X
def Inum_Add : Inst := Jnum_Add Xnum_Add
theorem Enum_Add : EqF Tryz.prog 21 gives Tryz.f56 [] [] (Jnum_Add (Ynum_Add)) := fun x y K => by kernel_rfl
theorem Inum_Add_ok : InstOk Tryz.prog G.1 Inum_Add := iok (gives := gives) [] okNil 21 follows Tryz.func56 (by kernel_rfl) (fun x => by kernel_rfl) (Enum_Add)

/- epact/num.Div -/
abbrev Tnum_Div : Type := Int → Int → (Int → Int → Bool → Prop) → Prop
def Ynum_Div (a0 : Int) (a1 : Int) (K : Int → Int → Bool → Prop) : Prop :=
 (if decide (a1 < 1) then
 K 0 0 false
 else
 (if a1 = 0 then
 False
 else
 (if a1 = 0 then
 False
 else
 (if decide (Int.tmod a0 a1 < 0) then
 (lt (w64 (w64 (Int.tdiv a0 a1) - 1)) fun v2 =>
 K v2 (w64 (Int.tmod a0 a1 + a1)) true)
 else
 K (w64 (Int.tdiv a0 a1)) (Int.tmod a0 a1) true))))
def Xnum_Div : Tnum_Div := Ynum_Div
def Jnum_Div (X : Tnum_Div) : Inst := mkI 93 pL32 .nil pL85 .nil X
def Inum_Div : Inst := Jnum_Div Xnum_Div
theorem Enum_Div : EqF Tryz.prog 24 gives Tryz.f93 [] [] (Jnum_Div (Ynum_Div)) := fun x y K => by kernel_rfl
theorem Inum_Div_ok : InstOk Tryz.prog G.1 Inum_Div := iok (gives := gives) [] okNil 24 follows Tryz.func93 (by kernel_rfl) (fun x => by kernel_rfl) (Enum_Div)

/- epact/day.Date -/
abbrev Tday_Date : Type := Int → (Int → Int → Int → Bool → Prop) → Prop
def Yday_Date (xnum_Div : Tnum_Div) (a0 : Int) (K : Int → Int → Int → Bool → Prop) : Prop :=
 (if decide (a0 < (-719162)) then
 K 0 0 0 false
 else
 (if decide (a0 > 2932896) then
 K 0 0 0 false
 else
 xnum_Div (w64 (a0 + 719468)) 146097 (fun r1 r2 r3 =>
 (lt (w64 (r2 - w64 (Int.tdiv r2 1460))) fun v4 =>
 (lt (w64 (v4 + w64 (Int.tdiv r2 36524))) fun v5 =>
 (lt (w64 (v5 - w64 (Int.tdiv r2 146096))) fun v6 =>
 (lt (w64 (365 * w64 (Int.tdiv v6 365))) fun v7 =>
 (lt (w64 (Int.tdiv (w64 (Int.tdiv v6 365)) 4)) fun v8 =>
 (lt (w64 (Int.tdiv (w64 (Int.tdiv v6 365)) 100)) fun v9 =>
 (lt (w64 (w64 (v7 + v8) - v9)) fun v10 =>
 (lt (w64 (5 * w64 (r2 - v10))) fun v11 =>
 (lt (w64 (Int.tdiv (w64 (v11 + 2)) 153)) fun v12 =>
 (lt (w64 (w64 (153 * v12) + 2)) fun v13 =>
 (lt (w64 (w64 (r2 - v10) - w64 (Int.tdiv v13 5))) fun v14 =>
 (if decide (w64 (v12 + 3) > 12) then
 (lt (w64 (w64 (v12 + 3) - 12)) fun v15 =>
 (lt (w64 (w64 (Int.tdiv v6 365) + 1)) fun v16 =>
 (lt (w64 (w64 (400 * r1) + v16)) fun v17 =>
 K v17 v15 (w64 (v14 + 1)) true)))
 else
 (lt (w64 (w64 (400 * r1) + w64 (Int.tdiv v6 365))) fun v18 =>
 K v18 (w64 (v12 + 3)) (w64 (v14 + 1)) true))))))))))))))))
def Xday_Date : Tday_Date := Yday_Date Xnum_Div
def Jday_Date (X : Tday_Date) : Inst := mkI 94 pL16 .nil pL86 .nil X
def Iday_Date : Inst := Jday_Date Xday_Date
theorem Eday_Date (xnum_Div : Tnum_Div) : EqF Tryz.prog 69 gives Tryz.f94 [Jnum_Div xnum_Div] [] (Jday_Date (Yday_Date xnum_Div)) := fun x y K => by kernel_rfl
theorem Iday_Date_ok : InstOk Tryz.prog G.1 Iday_Date := iok (gives := gives) [] (okCons Inum_Div_ok okNil) 69 follows Tryz.func94 (by kernel_rfl) (fun x => by kernel_rfl) (Eday_Date Xnum_Div)

/- epact/foot.year -/
abbrev Tfoot_year : Type := Int → (Int → Bool → Prop) → Prop
def Yfoot_year (xnum_Div : Tnum_Div) (xday_Date : Tday_Date) (a0 : Int) (K : Int → Bool → Prop) : Prop :=
 xnum_Div a0 86400 (fun r1 r2 r3 =>
 xday_Date r1 (fun r4 r5 r6 r7 =>
 K r4 r7))
def Xfoot_year : Tfoot_year := Yfoot_year Xnum_Div Xday_Date
def Jfoot_year (X : Tfoot_year) : Inst := mkI 57 pL16 .nil pL33 .nil X
def Ifoot_year : Inst := Jfoot_year Xfoot_year
theorem Efoot_year (xnum_Div : Tnum_Div) (xday_Date : Tday_Date) : EqF Tryz.prog 26 gives Tryz.f57 [Jnum_Div xnum_Div, Jday_Date xday_Date] [] (Jfoot_year (Yfoot_year xnum_Div xday_Date)) := fun x y K => by kernel_rfl
theorem Ifoot_year_ok : InstOk Tryz.prog G.1 Ifoot_year := iok (gives := gives) [] (okCons Inum_Div_ok (okCons Iday_Date_ok okNil)) 26 follows Tryz.func57 (by kernel_rfl) (fun x => by kernel_rfl) (Efoot_year Xnum_Div Xday_Date)

/- epact/day.Leap -/
abbrev Tday_Leap : Type := Int → (Bool → Prop) → Prop
def Yday_Leap (a0 : Int) (K : Bool → Prop) : Prop :=
 (if (Int.tmod a0 (4 :Int) == 0) then
 (if (Int.tmod a0 (100 :Int) != 0) then
 K true
 else
 K (Int.tmod a0 (400 :Int) == 0))
 else
 K false)
def Xday_Leap : Tday_Leap := Yday_Leap
def Jday_Leap (X : Tday_Leap) : Inst := mkI 147 pL16 .nil pL11 .nil X
def Iday_Leap : Inst := Jday_Leap Xday_Leap
theorem Eday_Leap : EqF Tryz.prog 16 gives Tryz.f147 [] [] (Jday_Leap (Yday_Leap)) := fun x y K => by kernel_rfl
theorem Iday_Leap_ok : InstOk Tryz.prog G.1 Iday_Leap := iok (gives := gives) [] okNil 16 follows Tryz.func147 (by kernel_rfl) (fun x => by kernel_rfl) (Eday_Leap)

/- epact/day.Last -/
abbrev Tday_Last : Type := Int → Int → (Int → Bool → Prop) → Prop
def Yday_Last (xday_Leap : Tday_Leap) (a0 : Int) (a1 : Int) (K : Int → Bool → Prop) : Prop :=
 (if decide (a0 < 1) then
 K 0 false
 else
 (if decide (a0 > 9999) then
 K 0 false
 else
 (if decide (a1 < 1) then
 K 0 false
 else
 (if decide (a1 > 12) then
 K 0 false
 else
 (if 0 ≤ w64 (a1 - 1) ∧ w64 (a1 - 1) < 12 then
 (Eng.asInt IntKind.i64 ([Eng.V.c (Value.int IntKind.i64 31), Eng.V.c (Value.int IntKind.i64 28), Eng.V.c (Value.int IntKind.i64 31), Eng.V.c (Value.int IntKind.i64 30), Eng.V.c (Value.int IntKind.i64 31), Eng.V.c (Value.int IntKind.i64 30), Eng.V.c (Value.int IntKind.i64 31), Eng.V.c (Value.int IntKind.i64 31), Eng.V.c (Value.int IntKind.i64 30), Eng.V.c (Value.int IntKind.i64 31), Eng.V.c (Value.int IntKind.i64 30), Eng.V.c (Value.int IntKind.i64 31)][Int.toNat (w64 (a1 - 1)) * (1 : Nat)]?) False fun n2 =>
 (if (a1 == 2) then
 xday_Leap a0 (fun r3 =>
 (if r3 then
 K (w64 (n2 + 1)) true
 else
 K n2 true))
 else
 K n2 true))
 else
 False)))))
def Xday_Last : Tday_Last := Yday_Last Xday_Leap
def Jday_Last (X : Tday_Last) : Inst := mkI 148 pL32 .nil pL33 .nil X
def Iday_Last : Inst := Jday_Last Xday_Last
theorem Eday_Last (xday_Leap : Tday_Leap) : EqF Tryz.prog 34 gives Tryz.f148 [Jday_Leap xday_Leap] [] (Jday_Last (Yday_Last xday_Leap)) := fun x y K => by kernel_rfl
theorem Iday_Last_ok : InstOk Tryz.prog G.1 Iday_Last := iok (gives := gives) [] (okCons Iday_Leap_ok okNil) 34 follows Tryz.func148 (by kernel_rfl) (fun x => by kernel_rfl) (Eday_Last Xday_Leap)

end Go.Proofs.YtmbdcbfandebhaaGreatDoor
end
section
set_option linter.unusedVariables false
set_option linter.unusedSimpArgs false
namespace Go.Proofs.YtmbdcbfandebhaaGreatDoor
open Go Go.Proofs.YtmbdcbfandebhaaGreatDoor.Eng
set_option linter.unusedVariables false
set_option maxRecDepth 100000
set_option maxHeartbeats 4000000
variable {G : Gs}
/- epact/day.Number -/
abbrev Tday_Number : Type := Int → Int → Int → (Int → Bool → Prop) → Prop
def Yday_Number (xday_Last : Tday_Last) (xnum_Div : Tnum_Div) (a0 : Int) (a1 : Int) (a2 : Int) (K : Int → Bool → Prop) : Prop :=
 xday_Last a0 a1 (fun r3 r4 =>
 (if (!r4) then
 K 0 false
 else
 (if decide (a2 < 1) then
 K 0 false
 else
 (if decide (a2 > r3) then
 K 0 false
 else
 (if decide (a1 < 3) then
 xnum_Div (w64 (a0 - 1)) 400 (fun r5 r6 r7 =>
 (lt (w64 (w64 (a1 + 12) - 3)) fun v8 =>
 (lt (w64 (w64 (153 * v8) + 2)) fun v9 =>
 (lt (w64 (w64 (Int.tdiv v9 5) + a2)) fun v10 =>
 (lt (w64 (w64 (146097 * r5) + w64 (365 * r6))) fun v11 =>
 (lt (w64 (v11 + w64 (Int.tdiv r6 4))) fun v12 =>
 (lt (w64 (v12 - w64 (Int.tdiv r6 100))) fun v13 =>
 (lt (w64 (v13 + w64 (v10 - 1))) fun v14 =>
 K (w64 (v14 - 719468)) true))))))))
 else
 xnum_Div a0 400 (fun r15 r16 r17 =>
 (lt (w64 (153 * w64 (a1 - 3))) fun v18 =>
 (lt (w64 (Int.tdiv (w64 (v18 + 2)) 5)) fun v19 =>
 (lt (w64 (w64 (v19 + a2) - 1)) fun v20 =>
 (lt (w64 (w64 (146097 * r15) + w64 (365 * r16))) fun v21 =>
 (lt (w64 (v21 + w64 (Int.tdiv r16 4))) fun v22 =>
 (lt (w64 (v22 - w64 (Int.tdiv r16 100))) fun v23 =>
 (lt (w64 (w64 (v23 + v20) - 719468)) fun v24 =>
 K v24 true)))))))))))))
def Xday_Number : Tday_Number := Yday_Number Xday_Last Xnum_Div
def Jday_Number (X : Tday_Number) : Inst := mkI 146 pL28 .nil pL33 .nil X
def Iday_Number : Inst := Jday_Number Xday_Number
theorem Eday_Number (xday_Last : Tday_Last) (xnum_Div : Tnum_Div) : EqF Tryz.prog 65 gives Tryz.f146 [Jday_Last xday_Last, Jnum_Div xnum_Div] [] (Jday_Number (Yday_Number xday_Last xnum_Div)) := fun x y K => by kernel_rfl
theorem Iday_Number_ok : InstOk Tryz.prog G.1 Iday_Number := iok (gives := gives) [] (okCons Iday_Last_ok (okCons Inum_Div_ok okNil)) 65 follows Tryz.func146 (by kernel_rfl) (fun x => by kernel_rfl) (Eday_Number Xday_Last Xnum_Div)

/- epact/day.Week -/
abbrev Tday_Week : Type := Int → (Int → Prop) → Prop
def Yday_Week (xnum_Div : Tnum_Div) (a0 : Int) (K : Int → Prop) : Prop :=
 xnum_Div (w64 (Int.tmod a0 (7 :Int) + 4)) 7 (fun r1 r2 r3 =>
 K r2)
def Xday_Week : Tday_Week := Yday_Week Xnum_Div
def Jday_Week (X : Tday_Week) : Inst := mkI 149 pL16 .nil pL16 .nil X
def Iday_Week : Inst := Jday_Week Xday_Week
theorem Eday_Week (xnum_Div : Tnum_Div) : EqF Tryz.prog 15 gives Tryz.f149 [Jnum_Div xnum_Div] [] (Jday_Week (Yday_Week xnum_Div)) := fun x y K => by kernel_rfl
theorem Iday_Week_ok : InstOk Tryz.prog G.1 Iday_Week := iok (gives := gives) [] (okCons Inum_Div_ok okNil) 15 follows Tryz.func149 (by kernel_rfl) (fun x => by kernel_rfl) (Eday_Week Xnum_Div)

/- epact/rule.Day -/
abbrev Trule_Day : Type := Q62 → Int → (Int → Bool → Prop) → Prop
def Yrule_Day (xday_Number : Tday_Number) (xrule_Right : Trule_Right) (xday_Leap : Tday_Leap) (xday_Last : Tday_Last) (xday_Week : Tday_Week) (a0 : Q62) (a1 : Int) (K : Int → Bool → Prop) : Prop :=
 xday_Number a1 1 1 (fun r2 r3 =>
 (if (!r3) then
 K 0 false
 else
 xrule_Right a0 (fun r4 =>
 (if (!r4) then
 K 0 false
 else
 (if (a0.1 == 2) then
 K (w64 (r2 + a0.2.1)) true
 else
 (if (a0.1 == 1) then
 (if decide (a0.2.1 ≤ 59) then
 (lt (w64 (w64 (r2 - 1) + a0.2.1)) fun v5 =>
 K v5 true)
 else
 xday_Leap a1 (fun r6 =>
 (if (!r6) then
 (lt (w64 (w64 (r2 - 1) + a0.2.1)) fun v7 =>
 K v7 true)
 else
 K (w64 (r2 + a0.2.1)) true)))
 else
 xday_Number a1 a0.2.1 1 (fun r8 r9 =>
 xday_Last a1 a0.2.1 (fun r10 r11 =>
 (lt (w64 (7 * w64 (a0.2.2.1 - 1))) fun v12 =>
 xday_Week r8 (fun r13 =>
 (lt (w64 (w64 (a0.2.2.2.1 - r13) + 7)) fun v14 =>
 (lt (decide (w64 (Int.tmod v14 7 + v12) ≥ r10)) fun v15 =>
 (if v15 then
 (lt (w64 (w64 (Int.tmod v14 7 + v12) - 7)) fun v16 =>
 K (w64 (r8 + v16)) true)
 else
 (lt (w64 (r8 + w64 (Int.tmod v14 7 + v12))) fun v17 =>
 K v17 true))))))))))))))
def Xrule_Day : Trule_Day := Yrule_Day Xday_Number Xrule_Right Xday_Leap Xday_Last Xday_Week
def Jrule_Day (X : Trule_Day) : Inst := mkI 129 pL87 .nil pL33 .nil X
def Irule_Day : Inst := Jrule_Day Xrule_Day
theorem Erule_Day (xday_Number : Tday_Number) (xrule_Right : Trule_Right) (xday_Leap : Tday_Leap) (xday_Last : Tday_Last) (xday_Week : Tday_Week) : EqF Tryz.prog 83 gives Tryz.f129 [Jday_Number xday_Number, Jrule_Right xrule_Right, Jday_Leap xday_Leap, Jday_Last xday_Last, Jday_Week xday_Week] [] (Jrule_Day (Yrule_Day xday_Number xrule_Right xday_Leap xday_Last xday_Week)) := fun x y K => by kernel_rfl
theorem Irule_Day_ok : InstOk Tryz.prog G.1 Irule_Day := iok (gives := gives) [] (okCons Iday_Number_ok (okCons Irule_Right_ok (okCons Iday_Leap_ok (okCons Iday_Last_ok (okCons Iday_Week_ok okNil))))) 83 follows Tryz.func129 (by kernel_rfl) (fun x => by kernel_rfl) (Erule_Day Xday_Number Xrule_Right Xday_Leap Xday_Last Xday_Week)

/- epact/rule.At -/
abbrev Trule_At : Type := Q62 → Int → (Int → Bool → Prop) → Prop
def Yrule_At (xrule_Day : Trule_Day) (a0 : Q62) (a1 : Int) (K : Int → Bool → Prop) : Prop :=
 xrule_Day a0 a1 (fun r2 r3 =>
 (if (!r3) then
 K 0 false
 else
 (lt (w64 (w64 (r2 * 86400) + a0.2.2.2.2.1)) fun v4 =>
 K v4 true)))
def Xrule_At : Trule_At := Yrule_At Xrule_Day
def Jrule_At (X : Trule_At) : Inst := mkI 95 pL87 .nil pL33 .nil X
def Irule_At : Inst := Jrule_At Xrule_At
theorem Erule_At (xrule_Day : Trule_Day) : EqF Tryz.prog 21 gives Tryz.f95 [Jrule_Day xrule_Day] [] (Jrule_At (Yrule_At xrule_Day)) := fun x y K => by kernel_rfl
theorem Irule_At_ok : InstOk Tryz.prog G.1 Irule_At := iok (gives := gives) [] (okCons Irule_Day_ok okNil) 21 follows Tryz.func95 (by kernel_rfl) (fun x => by kernel_rfl) (Erule_At Xrule_Day)

/- epact/foot.Span -/
abbrev Tfoot_Span : Type := Q64 → Int → (Int → Int → Bool → Prop) → Prop
def Yfoot_Span (xfoot_Right : Tfoot_Right) (xrule_At : Trule_At) (a0 : Q64) (a1 : Int) (K : Int → Int → Bool → Prop) : Prop :=
 (if (!a0.2.2.2.2.2.2.1) then
 K 0 0 false
 else
 xfoot_Right a0 (fun r2 =>
 (if (!r2) then
 K 0 0 false
 else
 xrule_At (a0.2.2.2.2.2.2.2.1, a0.2.2.2.2.2.2.2.2.1, a0.2.2.2.2.2.2.2.2.2.1, a0.2.2.2.2.2.2.2.2.2.2.1, a0.2.2.2.2.2.2.2.2.2.2.2.1, ()) a1 (fun r3 r4 =>
 (if (!r4) then
 K 0 0 false
 else
 xrule_At a0.2.2.2.2.2.2.2.2.2.2.2.2 a1 (fun r5 r6 =>
 K (w64 (r3 - a0.1)) (w64 (r5 - a0.2.2.2.1)) true))))))
def Xfoot_Span : Tfoot_Span := Yfoot_Span Xfoot_Right Xrule_At
def Jfoot_Span (X : Tfoot_Span) : Inst := mkI 58 pL88 .nil pL85 .nil X
def Ifoot_Span : Inst := Jfoot_Span Xfoot_Span
theorem Efoot_Span (xfoot_Right : Tfoot_Right) (xrule_At : Trule_At) : EqF Tryz.prog 41 gives Tryz.f58 [Jfoot_Right xfoot_Right, Jrule_At xrule_At] [] (Jfoot_Span (Yfoot_Span xfoot_Right xrule_At)) := fun x y K => by kernel_rfl
theorem Ifoot_Span_ok : InstOk Tryz.prog G.1 Ifoot_Span := iok (gives := gives) [] (okCons Ifoot_Right_ok (okCons Irule_At_ok okNil)) 41 follows Tryz.func58 (by kernel_rfl) (fun x => by kernel_rfl) (Efoot_Span Xfoot_Right Xrule_At)

/- epact/foot.Lookup -/
abbrev Tfoot_Lookup : Type := Q64 → Int → (Q37 → Prop) → Prop
def Yfoot_Lookup (xnum_Add : Tnum_Add) (xfoot_year : Tfoot_year) (xfoot_Span : Tfoot_Span) (a0 : Q64) (a1 : Int) (K : Q37 → Prop) : Prop :=
 xnum_Add a1 a0.1 (fun r2 r3 =>
 xfoot_year r2 (fun r4 r5 =>
 xfoot_Span a0 r4 (fun r6 r7 r8 =>
 (if (!r3) then
 K (a0.1, a0.2.1, a0.2.2.1, ())
 else
 (if (!r5) then
 K (a0.1, a0.2.1, a0.2.2.1, ())
 else
 (if (!r8) then
 K (a0.1, a0.2.1, a0.2.2.1, ())
 else
 (if decide (a1 ≥ r6) then
 (if decide (a1 < r7) then
 K (a0.2.2.2.1, a0.2.2.2.2.1, a0.2.2.2.2.2.1, ())
 else
 (if decide (r6 ≥ r7) then
 (if decide (a1 ≥ r6) then
 K (a0.2.2.2.1, a0.2.2.2.2.1, a0.2.2.2.2.2.1, ())
 else
 (if decide (a1 < r7) then
 K (a0.2.2.2.1, a0.2.2.2.2.1, a0.2.2.2.2.2.1, ())
 else
 K (a0.1, a0.2.1, a0.2.2.1, ())))
 else
 K (a0.1, a0.2.1, a0.2.2.1, ())))
 else
 (if decide (r6 ≥ r7) then
 (if decide (a1 ≥ r6) then
 K (a0.2.2.2.1, a0.2.2.2.2.1, a0.2.2.2.2.2.1, ())
 else
 (if decide (a1 < r7) then
 K (a0.2.2.2.1, a0.2.2.2.2.1, a0.2.2.2.2.2.1, ())
 else
 K (a0.1, a0.2.1, a0.2.2.1, ())))
 else
 K (a0.1, a0.2.1, a0.2.2.1, ())))))))))
def Xfoot_Lookup : Tfoot_Lookup := Yfoot_Lookup Xnum_Add Xfoot_year Xfoot_Span
def Jfoot_Lookup (X : Tfoot_Lookup) : Inst := mkI 23 pL88 .nil pL89 .nil X
def Ifoot_Lookup : Inst := Jfoot_Lookup Xfoot_Lookup
theorem Efoot_Lookup (xnum_Add : Tnum_Add) (xfoot_year : Tfoot_year) (xfoot_Span : Tfoot_Span) : EqF Tryz.prog 71 gives Tryz.f23 [Jnum_Add xnum_Add, Jfoot_year xfoot_year, Jfoot_Span xfoot_Span] [] (Jfoot_Lookup (Yfoot_Lookup xnum_Add xfoot_year xfoot_Span)) := fun x y K => by kernel_rfl
theorem Ifoot_Lookup_ok : InstOk Tryz.prog G.1 Ifoot_Lookup := iok (gives := gives) [] (okCons Inum_Add_ok (okCons Ifoot_year_ok (okCons Ifoot_Span_ok okNil))) 71 follows Tryz.func23 (by kernel_rfl) (fun x => by kernel_rfl) (Efoot_Lookup Xnum_Add Xfoot_year Xfoot_Span)

/- epact/zone.Lookup -/
abbrev Tzone_Lookup : Type := Q5 → Int → (Q37 → Prop) → Prop
def Yzone_Lookup (xzone_Index : Tzone_Index) (xfoot_Parse : Tfoot_Parse) (xzone_Posix : Tzone_Posix) (xfoot_Lookup : Tfoot_Lookup) (a0 : Q5) (a1 : Int) (K : Q37 → Prop) : Prop :=
 xzone_Index a0 a1 (fun r2 =>
 (if (!ByteArray.toList a0.2.2.2.1 == ByteArray.toList (ByteArray.mk #[])) then
 (if (w64 (r2 + 1) == (↑(List.length a0.2.1) : Int)) then
 xfoot_Parse a0.2.2.2.1 (fun r3 r4 =>
 xzone_Posix a0 a1 (fun r5 =>
 xfoot_Lookup r3 r5 (fun r6 =>
 K r6)))
 else
 (if decide (r2 < 0) then
 (if (0 :Int) ≤ 0 ∧ 0 < (↑(List.length a0.1) : Int) then
 (Eng.asInt IntKind.i64 (Eng.getC a0.1 (0 : Nat) (0 : Nat)) False fun n7 =>
 (Eng.asBool (Eng.getC a0.1 (0 : Nat) (1 : Nat)) False fun b8 =>
 (Eng.asStr (Eng.getC a0.1 (0 : Nat) (2 : Nat)) False fun t9 =>
 K (n7, b8, t9, ()))))
 else
 False)
 else
 (if 0 ≤ r2 ∧ r2 < (↑(List.length a0.2.1) : Int) then
 (Eng.asInt IntKind.i64 (Eng.getC a0.2.1 (Int.toNat r2) (1 : Nat)) False fun n10 =>
 (if 0 ≤ n10 ∧ n10 < (↑(List.length a0.1) : Int) then
 (Eng.asInt IntKind.i64 (Eng.getC a0.1 (Int.toNat n10) (0 : Nat)) False fun n11 =>
 (Eng.asBool (Eng.getC a0.1 (Int.toNat n10) (1 : Nat)) False fun b12 =>
 (Eng.asStr (Eng.getC a0.1 (Int.toNat n10) (2 : Nat)) False fun t13 =>
 K (n11, b12, t13, ()))))
 else
 False))
 else
 False)))
 else
 (if decide (r2 < 0) then
 (if (0 :Int) ≤ 0 ∧ 0 < (↑(List.length a0.1) : Int) then
 (Eng.asInt IntKind.i64 (Eng.getC a0.1 (0 : Nat) (0 : Nat)) False fun n14 =>
 (Eng.asBool (Eng.getC a0.1 (0 : Nat) (1 : Nat)) False fun b15 =>
 (Eng.asStr (Eng.getC a0.1 (0 : Nat) (2 : Nat)) False fun t16 =>
 K (n14, b15, t16, ()))))
 else
 False)
 else
 (if 0 ≤ r2 ∧ r2 < (↑(List.length a0.2.1) : Int) then
 (Eng.asInt IntKind.i64 (Eng.getC a0.2.1 (Int.toNat r2) (1 : Nat)) False fun n17 =>
 (if 0 ≤ n17 ∧ n17 < (↑(List.length a0.1) : Int) then
 (Eng.asInt IntKind.i64 (Eng.getC a0.1 (Int.toNat n17) (0 : Nat)) False fun n18 =>
 (Eng.asBool (Eng.getC a0.1 (Int.toNat n17) (1 : Nat)) False fun b19 =>
 (Eng.asStr (Eng.getC a0.1 (Int.toNat n17) (2 : Nat)) False fun t20 =>
 K (n18, b19, t20, ()))))
 else
 False))
 else
 False))))
def Xzone_Lookup : Tzone_Lookup := Yzone_Lookup Xzone_Index Xfoot_Parse Xzone_Posix Xfoot_Lookup
def Jzone_Lookup (X : Tzone_Lookup) : Inst := mkI 20 pL77 .nil pL89 .nil X
def Izone_Lookup : Inst := Jzone_Lookup Xzone_Lookup
theorem Ezone_Lookup (xzone_Index : Tzone_Index) (xfoot_Parse : Tfoot_Parse) (xzone_Posix : Tzone_Posix) (xfoot_Lookup : Tfoot_Lookup) : EqF Tryz.prog 51 gives Tryz.f20 [Jzone_Index xzone_Index, Jfoot_Parse xfoot_Parse, Jzone_Posix xzone_Posix, Jfoot_Lookup xfoot_Lookup] [] (Jzone_Lookup (Yzone_Lookup xzone_Index xfoot_Parse xzone_Posix xfoot_Lookup)) := fun x y K => by kernel_rfl
theorem Izone_Lookup_ok : InstOk Tryz.prog G.1 Izone_Lookup := iok (gives := gives) [] (okCons Izone_Index_ok (okCons Ifoot_Parse_ok (okCons Izone_Posix_ok (okCons Ifoot_Lookup_ok okNil)))) 51 follows Tryz.func20 (by kernel_rfl) (fun x => by kernel_rfl) (Ezone_Lookup Xzone_Index Xfoot_Parse Xzone_Posix Xfoot_Lookup)

/- slices.Equal[[]epact/api.Type,epact/api.Type] -/
abbrev Tslices_Equal___api_Type_api_Type_ : Type := (List Eng.V) → (List Eng.V) → (Bool → Prop) → Prop
def Lslices_Equal___api_Type_api_Type__0 (K : Bool → Prop) : (Q90 → Prop) → Q90 → Prop := fun k2 x3 =>
 (if decide (x3.1.2.2.2.2.1 < x3.1.2.2.2.1) then
 (if 0 ≤ x3.1.2.2.2.2.1 ∧ x3.1.2.2.2.2.1 < (↑(List.length x3.1.1) : Int) then
 (Eng.asInt IntKind.i64 (Eng.getC x3.1.1 (Int.toNat x3.1.2.2.2.2.1) (0 : Nat)) False fun n4 =>
 (Eng.asBool (Eng.getC x3.1.1 (Int.toNat x3.1.2.2.2.2.1) (1 : Nat)) False fun b5 =>
 (Eng.asStr (Eng.getC x3.1.1 (Int.toNat x3.1.2.2.2.2.1) (2 : Nat)) False fun t6 =>
 (if 0 ≤ x3.1.2.2.2.2.1 ∧ x3.1.2.2.2.2.1 < (↑(List.length x3.1.2.1) : Int) then
 (Eng.asInt IntKind.i64 (Eng.getC x3.1.2.1 (Int.toNat x3.1.2.2.2.2.1) (0 : Nat)) False fun n7 =>
 (Eng.asBool (Eng.getC x3.1.2.1 (Int.toNat x3.1.2.2.2.2.1) (1 : Nat)) False fun b8 =>
 (Eng.asStr (Eng.getC x3.1.2.1 (Int.toNat x3.1.2.2.2.2.1) (2 : Nat)) False fun t9 =>
 (lt (!(n4 == n7 && (b5 == b8 && (ByteArray.toList t6 == ByteArray.toList t9 && true)))) fun v10 =>
 (if v10 then
 K false
 else
 k2 ((x3.1.1, x3.1.2.1, x3.1.2.2.1, x3.1.2.2.2.1, w64 (x3.1.2.2.2.2.1 + 1), ()), ()))))))
 else
 False))))
 else
 False)
 else
 K true)
def Lslices_Equal___api_Type_api_Type__0p : Lp := ⟨12307, [.trim 12307], pT91, .nil, 0⟩
def Yslices_Equal___api_Type_api_Type_ (a0 : (List Eng.V)) (a1 : (List Eng.V)) (K : Bool → Prop) : Prop :=
 (if ((↑(List.length a0) : Int) != (↑(List.length a1) : Int)) then
 K false
 else
 lp (Lslices_Equal___api_Type_api_Type__0 K) ((a0, a1, false, (↑(List.length a0) : Int), 0, ()), ()))
def Xslices_Equal___api_Type_api_Type_ : Tslices_Equal___api_Type_api_Type_ := Yslices_Equal___api_Type_api_Type_
def Jslices_Equal___api_Type_api_Type_ (X : Tslices_Equal___api_Type_api_Type_) : Inst := mkI 39 pL92 .nil pL11 .nil X
def Islices_Equal___api_Type_api_Type_ : Inst := Jslices_Equal___api_Type_api_Type_ Xslices_Equal___api_Type_api_Type_
theorem Eslices_Equal___api_Type_api_Type_ : EqF Tryz.prog 26 gives Tryz.f39 [] [Lslices_Equal___api_Type_api_Type__0p] (Jslices_Equal___api_Type_api_Type_ (Yslices_Equal___api_Type_api_Type_)) := fun x y K => by kernel_rfl
theorem Islices_Equal___api_Type_api_Type__ok : InstOk Tryz.prog G.1 Islices_Equal___api_Type_api_Type_ := iok (gives := gives) [Lslices_Equal___api_Type_api_Type__0p] okNil 26 follows Tryz.func39 (by kernel_rfl) (fun x => by kernel_rfl) (Eslices_Equal___api_Type_api_Type_)

/- slices.Equal[[]epact/api.Trans,epact/api.Trans] -/
abbrev Tslices_Equal___api_Trans_api_Trans_ : Type := (List Eng.V) → (List Eng.V) → (Bool → Prop) → Prop
def Lslices_Equal___api_Trans_api_Trans__0 (K : Bool → Prop) : (Q90 → Prop) → Q90 → Prop := fun k2 x3 =>
 (if decide (x3.1.2.2.2.2.1 < x3.1.2.2.2.1) then
 (if 0 ≤ x3.1.2.2.2.2.1 ∧ x3.1.2.2.2.2.1 < (↑(List.length x3.1.1) : Int) then
 (Eng.asInt IntKind.i64 (Eng.getC x3.1.1 (Int.toNat x3.1.2.2.2.2.1) (0 : Nat)) False fun n4 =>
 (Eng.asInt IntKind.i64 (Eng.getC x3.1.1 (Int.toNat x3.1.2.2.2.2.1) (1 : Nat)) False fun n5 =>
 (if 0 ≤ x3.1.2.2.2.2.1 ∧ x3.1.2.2.2.2.1 < (↑(List.length x3.1.2.1) : Int) then
 (Eng.asInt IntKind.i64 (Eng.getC x3.1.2.1 (Int.toNat x3.1.2.2.2.2.1) (0 : Nat)) False fun n6 =>
 (Eng.asInt IntKind.i64 (Eng.getC x3.1.2.1 (Int.toNat x3.1.2.2.2.2.1) (1 : Nat)) False fun n7 =>
 (if (!(n4 == n6 && (n5 == n7 && true))) then
 K false
 else
 k2 ((x3.1.1, x3.1.2.1, x3.1.2.2.1, x3.1.2.2.2.1, w64 (x3.1.2.2.2.2.1 + 1), ()), ()))))
 else
 False)))
 else
 False)
 else
 K true)
def Lslices_Equal___api_Trans_api_Trans__0p : Lp := ⟨12307, [.trim 12307], pT93, .nil, 0⟩
def Yslices_Equal___api_Trans_api_Trans_ (a0 : (List Eng.V)) (a1 : (List Eng.V)) (K : Bool → Prop) : Prop :=
 (if ((↑(List.length a0) : Int) != (↑(List.length a1) : Int)) then
 K false
 else
 lp (Lslices_Equal___api_Trans_api_Trans__0 K) ((a0, a1, false, (↑(List.length a0) : Int), 0, ()), ()))
def Xslices_Equal___api_Trans_api_Trans_ : Tslices_Equal___api_Trans_api_Trans_ := Yslices_Equal___api_Trans_api_Trans_
def Jslices_Equal___api_Trans_api_Trans_ (X : Tslices_Equal___api_Trans_api_Trans_) : Inst := mkI 40 pL94 .nil pL11 .nil X
def Islices_Equal___api_Trans_api_Trans_ : Inst := Jslices_Equal___api_Trans_api_Trans_ Xslices_Equal___api_Trans_api_Trans_
theorem Eslices_Equal___api_Trans_api_Trans_ : EqF Tryz.prog 26 gives Tryz.f40 [] [Lslices_Equal___api_Trans_api_Trans__0p] (Jslices_Equal___api_Trans_api_Trans_ (Yslices_Equal___api_Trans_api_Trans_)) := fun x y K => by kernel_rfl
theorem Islices_Equal___api_Trans_api_Trans__ok : InstOk Tryz.prog G.1 Islices_Equal___api_Trans_api_Trans_ := iok (gives := gives) [Lslices_Equal___api_Trans_api_Trans__0p] okNil 26 follows Tryz.func40 (by kernel_rfl) (fun x => by kernel_rfl) (Eslices_Equal___api_Trans_api_Trans_)

/- slices.Equal[[]epact/api.Corr,epact/api.Corr] -/
abbrev Tslices_Equal___api_Corr_api_Corr_ : Type := (List Eng.V) → (List Eng.V) → (Bool → Prop) → Prop
def Lslices_Equal___api_Corr_api_Corr__0 (K : Bool → Prop) : (Q90 → Prop) → Q90 → Prop := fun k2 x3 =>
 (if decide (x3.1.2.2.2.2.1 < x3.1.2.2.2.1) then
 (if 0 ≤ x3.1.2.2.2.2.1 ∧ x3.1.2.2.2.2.1 < (↑(List.length x3.1.1) : Int) then
 (Eng.asInt IntKind.i64 (Eng.getC x3.1.1 (Int.toNat x3.1.2.2.2.2.1) (0 : Nat)) False fun n4 =>
 (Eng.asInt IntKind.i64 (Eng.getC x3.1.1 (Int.toNat x3.1.2.2.2.2.1) (1 : Nat)) False fun n5 =>
 (if 0 ≤ x3.1.2.2.2.2.1 ∧ x3.1.2.2.2.2.1 < (↑(List.length x3.1.2.1) : Int) then
 (Eng.asInt IntKind.i64 (Eng.getC x3.1.2.1 (Int.toNat x3.1.2.2.2.2.1) (0 : Nat)) False fun n6 =>
 (Eng.asInt IntKind.i64 (Eng.getC x3.1.2.1 (Int.toNat x3.1.2.2.2.2.1) (1 : Nat)) False fun n7 =>
 (if (!(n4 == n6 && (n5 == n7 && true))) then
 K false
 else
 k2 ((x3.1.1, x3.1.2.1, x3.1.2.2.1, x3.1.2.2.2.1, w64 (x3.1.2.2.2.2.1 + 1), ()), ()))))
 else
 False)))
 else
 False)
 else
 K true)
def Lslices_Equal___api_Corr_api_Corr__0p : Lp := ⟨12307, [.trim 12307], pT93, .nil, 0⟩
def Yslices_Equal___api_Corr_api_Corr_ (a0 : (List Eng.V)) (a1 : (List Eng.V)) (K : Bool → Prop) : Prop :=
 (if ((↑(List.length a0) : Int) != (↑(List.length a1) : Int)) then
 K false
 else
 lp (Lslices_Equal___api_Corr_api_Corr__0 K) ((a0, a1, false, (↑(List.length a0) : Int), 0, ()), ()))
def Xslices_Equal___api_Corr_api_Corr_ : Tslices_Equal___api_Corr_api_Corr_ := Yslices_Equal___api_Corr_api_Corr_
def Jslices_Equal___api_Corr_api_Corr_ (X : Tslices_Equal___api_Corr_api_Corr_) : Inst := mkI 41 pL94 .nil pL11 .nil X
def Islices_Equal___api_Corr_api_Corr_ : Inst := Jslices_Equal___api_Corr_api_Corr_ Xslices_Equal___api_Corr_api_Corr_
theorem Eslices_Equal___api_Corr_api_Corr_ : EqF Tryz.prog 26 gives Tryz.f41 [] [Lslices_Equal___api_Corr_api_Corr__0p] (Jslices_Equal___api_Corr_api_Corr_ (Yslices_Equal___api_Corr_api_Corr_)) := fun x y K => by kernel_rfl
theorem Islices_Equal___api_Corr_api_Corr__ok : InstOk Tryz.prog G.1 Islices_Equal___api_Corr_api_Corr_ := iok (gives := gives) [Lslices_Equal___api_Corr_api_Corr__0p] okNil 26 follows Tryz.func41 (by kernel_rfl) (fun x => by kernel_rfl) (Eslices_Equal___api_Corr_api_Corr_)

/- epact/zone.Same -/
abbrev Tzone_Same : Type := Q5 → Q5 → (Bool → Prop) → Prop
def Yzone_Same (xslices_Equal___api_Type_api_Type_ : Tslices_Equal___api_Type_api_Type_) (xslices_Equal___api_Trans_api_Trans_ : Tslices_Equal___api_Trans_api_Trans_) (xslices_Equal___api_Corr_api_Corr_ : Tslices_Equal___api_Corr_api_Corr_) (a0 : Q5) (a1 : Q5) (K : Bool → Prop) : Prop :=
 xslices_Equal___api_Type_api_Type_ a0.1 a1.1 (fun r2 =>
 (if r2 then
 xslices_Equal___api_Trans_api_Trans_ a0.2.1 a1.2.1 (fun r3 =>
 (if r3 then
 xslices_Equal___api_Corr_api_Corr_ a0.2.2.1 a1.2.2.1 (fun r4 =>
 (if r4 then
 (if (ByteArray.toList a0.2.2.2.1 == ByteArray.toList a1.2.2.2.1) then
 K (a0.2.2.2.2.1 == a1.2.2.2.2.1)
 else
 K false)
 else
 K false))
 else
 K false))
 else
 K false))
def Xzone_Same : Tzone_Same := Yzone_Same Xslices_Equal___api_Type_api_Type_ Xslices_Equal___api_Trans_api_Trans_ Xslices_Equal___api_Corr_api_Corr_
def Jzone_Same (X : Tzone_Same) : Inst := mkI 13 pL95 .nil pL11 .nil X
def Izone_Same : Inst := Jzone_Same Xzone_Same
theorem Ezone_Same (xslices_Equal___api_Type_api_Type_ : Tslices_Equal___api_Type_api_Type_) (xslices_Equal___api_Trans_api_Trans_ : Tslices_Equal___api_Trans_api_Trans_) (xslices_Equal___api_Corr_api_Corr_ : Tslices_Equal___api_Corr_api_Corr_) : EqF Tryz.prog 40 gives Tryz.f13 [Jslices_Equal___api_Type_api_Type_ xslices_Equal___api_Type_api_Type_, Jslices_Equal___api_Trans_api_Trans_ xslices_Equal___api_Trans_api_Trans_, Jslices_Equal___api_Corr_api_Corr_ xslices_Equal___api_Corr_api_Corr_] [] (Jzone_Same (Yzone_Same xslices_Equal___api_Type_api_Type_ xslices_Equal___api_Trans_api_Trans_ xslices_Equal___api_Corr_api_Corr_)) := fun x y K => by kernel_rfl
theorem Izone_Same_ok : InstOk Tryz.prog G.1 Izone_Same := iok (gives := gives) [] (okCons Islices_Equal___api_Type_api_Type__ok (okCons Islices_Equal___api_Trans_api_Trans__ok (okCons Islices_Equal___api_Corr_api_Corr__ok okNil))) 40 follows Tryz.func13 (by kernel_rfl) (fun x => by kernel_rfl) (Ezone_Same Xslices_Equal___api_Type_api_Type_ Xslices_Equal___api_Trans_api_Trans_ Xslices_Equal___api_Corr_api_Corr_)

/- epact/epactlaw19.small -/
abbrev Tepactlaw19_small : Type := (Bool → Prop) → Prop
def Yepactlaw19_small (xzone_Copy : Tzone_Copy) (xzone_Right : Tzone_Right) (xzone_Index : Tzone_Index) (xzone_Lookup : Tzone_Lookup) (xzone_Posix : Tzone_Posix) (xzone_Same : Tzone_Same) (K : Bool → Prop) : Prop :=
 xzone_Copy ([Eng.V.agg [Eng.V.c (Value.int IntKind.i64 (-18000)), Eng.V.c (Value.bool false), Eng.V.c (Value.string (ByteArray.mk #[(69 : UInt8), (83 : UInt8), (84 : UInt8)]))], Eng.V.agg [Eng.V.c (Value.int IntKind.i64 (-14400)), Eng.V.c (Value.bool true), Eng.V.c (Value.string (ByteArray.mk #[(69 : UInt8), (68 : UInt8), (84 : UInt8)]))]], [Eng.V.agg [Eng.V.c (Value.int IntKind.i64 100), Eng.V.c (Value.int IntKind.i64 1)], Eng.V.agg [Eng.V.c (Value.int IntKind.i64 200), Eng.V.c (Value.int IntKind.i64 0)]], [], ByteArray.mk #[(69 : UInt8), (83 : UInt8), (84 : UInt8), (53 : UInt8), (69 : UInt8), (68 : UInt8), (84 : UInt8), (44 : UInt8), (77 : UInt8), (51 : UInt8), (46 : UInt8), (50 : UInt8), (46 : UInt8), (48 : UInt8), (44 : UInt8), (77 : UInt8), (49 : UInt8), (49 : UInt8), (46 : UInt8), (49 : UInt8), (46 : UInt8), (48 : UInt8)], 2, ()) (fun r0 r1 r2 r3 r4 r5 r6 r7 r8 r9 =>
 (if ((↑(List.length r4) : Int) != 2) then
 K false
 else
 (if (0 :Int) ≤ 0 ∧ 0 < (↑(List.length r4) : Int) then
 (if r6 = false then
 (if (0 : Nat) < List.length r4 then
 xzone_Right ([Eng.V.agg [Eng.V.c (Value.int IntKind.i64 (-18000)), Eng.V.c (Value.bool false), Eng.V.c (Value.string (ByteArray.mk #[(69 : UInt8), (83 : UInt8), (84 : UInt8)]))], Eng.V.agg [Eng.V.c (Value.int IntKind.i64 (-14400)), Eng.V.c (Value.bool true), Eng.V.c (Value.string (ByteArray.mk #[(69 : UInt8), (68 : UInt8), (84 : UInt8)]))]], [Eng.V.agg [Eng.V.c (Value.int IntKind.i64 100), Eng.V.c (Value.int IntKind.i64 1)], Eng.V.agg [Eng.V.c (Value.int IntKind.i64 200), Eng.V.c (Value.int IntKind.i64 0)]], [], ByteArray.mk #[(69 : UInt8), (83 : UInt8), (84 : UInt8), (53 : UInt8), (69 : UInt8), (68 : UInt8), (84 : UInt8), (44 : UInt8), (77 : UInt8), (51 : UInt8), (46 : UInt8), (50 : UInt8), (46 : UInt8), (48 : UInt8), (44 : UInt8), (77 : UInt8), (49 : UInt8), (49 : UInt8), (46 : UInt8), (49 : UInt8), (46 : UInt8), (48 : UInt8)], 2, ()) (fun r10 =>
 (if r10 then
 xzone_Right ([Eng.V.agg [Eng.V.c (Value.int IntKind.i64 (-18000)), Eng.V.c (Value.bool false), Eng.V.c (Value.string (ByteArray.mk #[(69 : UInt8), (83 : UInt8), (84 : UInt8)]))], Eng.V.agg [Eng.V.c (Value.int IntKind.i64 (-14400)), Eng.V.c (Value.bool true), Eng.V.c (Value.string (ByteArray.mk #[(69 : UInt8), (68 : UInt8), (84 : UInt8)]))]], [Eng.V.agg [Eng.V.c (Value.int IntKind.i64 100), Eng.V.c (Value.int IntKind.i64 1)], Eng.V.agg [Eng.V.c (Value.int IntKind.i64 200), Eng.V.c (Value.int IntKind.i64 0)]], [], ByteArray.mk #[], 2, ()) (fun r11 =>
 (if r11 then
 xzone_Right ([Eng.V.agg [Eng.V.c (Value.int IntKind.i64 (-18000)), Eng.V.c (Value.bool false), Eng.V.c (Value.string (ByteArray.mk #[(69 : UInt8), (83 : UInt8), (84 : UInt8)]))], Eng.V.agg [Eng.V.c (Value.int IntKind.i64 (-14400)), Eng.V.c (Value.bool true), Eng.V.c (Value.string (ByteArray.mk #[(69 : UInt8), (68 : UInt8), (84 : UInt8)]))]], [Eng.V.agg [Eng.V.c (Value.int IntKind.i64 100), Eng.V.c (Value.int IntKind.i64 1)], Eng.V.agg [Eng.V.c (Value.int IntKind.i64 200), Eng.V.c (Value.int IntKind.i64 0)]], [], ByteArray.mk #[(69 : UInt8), (83 : UInt8), (84 : UInt8), (53 : UInt8), (69 : UInt8), (68 : UInt8), (84 : UInt8), (44 : UInt8), (77 : UInt8), (51 : UInt8), (46 : UInt8), (50 : UInt8), (46 : UInt8), (48 : UInt8), (47 : UInt8), (45 : UInt8), (49 : UInt8), (44 : UInt8), (77 : UInt8), (49 : UInt8), (49 : UInt8), (46 : UInt8), (49 : UInt8), (46 : UInt8), (48 : UInt8)], 2, ()) (fun r12 =>
 (if (!r12) then
 xzone_Right ([], [], [], ByteArray.mk #[], 0, ()) (fun r13 =>
 (if (!r13) then
 xzone_Right ([Eng.V.agg [Eng.V.c (Value.int IntKind.i64 (-18000)), Eng.V.c (Value.bool false), Eng.V.c (Value.string (ByteArray.mk #[(69 : UInt8), (83 : UInt8), (84 : UInt8)]))], Eng.V.agg [Eng.V.c (Value.int IntKind.i64 (-14400)), Eng.V.c (Value.bool true), Eng.V.c (Value.string (ByteArray.mk #[(69 : UInt8), (68 : UInt8), (84 : UInt8)]))]], [Eng.V.agg [Eng.V.c (Value.int IntKind.i64 100), Eng.V.c (Value.int IntKind.i64 1)], Eng.V.agg [Eng.V.c (Value.int IntKind.i64 200), Eng.V.c (Value.int IntKind.i64 0)]], [Eng.V.agg [Eng.V.c (Value.int IntKind.i64 78796800), Eng.V.c (Value.int IntKind.i64 1)]], ByteArray.mk #[], 2, ()) (fun r14 =>
 (if r14 then
 xzone_Index ([Eng.V.agg [Eng.V.c (Value.int IntKind.i64 (-18000)), Eng.V.c (Value.bool false), Eng.V.c (Value.string (ByteArray.mk #[(69 : UInt8), (83 : UInt8), (84 : UInt8)]))], Eng.V.agg [Eng.V.c (Value.int IntKind.i64 (-14400)), Eng.V.c (Value.bool true), Eng.V.c (Value.string (ByteArray.mk #[(69 : UInt8), (68 : UInt8), (84 : UInt8)]))]], [Eng.V.agg [Eng.V.c (Value.int IntKind.i64 100), Eng.V.c (Value.int IntKind.i64 1)], Eng.V.agg [Eng.V.c (Value.int IntKind.i64 200), Eng.V.c (Value.int IntKind.i64 0)]], [], ByteArray.mk #[(69 : UInt8), (83 : UInt8), (84 : UInt8), (53 : UInt8), (69 : UInt8), (68 : UInt8), (84 : UInt8), (44 : UInt8), (77 : UInt8), (51 : UInt8), (46 : UInt8), (50 : UInt8), (46 : UInt8), (48 : UInt8), (44 : UInt8), (77 : UInt8), (49 : UInt8), (49 : UInt8), (46 : UInt8), (49 : UInt8), (46 : UInt8), (48 : UInt8)], 2, ()) 99 (fun r15 =>
 (if (r15 == (-1)) then
 xzone_Index ([Eng.V.agg [Eng.V.c (Value.int IntKind.i64 (-18000)), Eng.V.c (Value.bool false), Eng.V.c (Value.string (ByteArray.mk #[(69 : UInt8), (83 : UInt8), (84 : UInt8)]))], Eng.V.agg [Eng.V.c (Value.int IntKind.i64 (-14400)), Eng.V.c (Value.bool true), Eng.V.c (Value.string (ByteArray.mk #[(69 : UInt8), (68 : UInt8), (84 : UInt8)]))]], [Eng.V.agg [Eng.V.c (Value.int IntKind.i64 100), Eng.V.c (Value.int IntKind.i64 1)], Eng.V.agg [Eng.V.c (Value.int IntKind.i64 200), Eng.V.c (Value.int IntKind.i64 0)]], [], ByteArray.mk #[(69 : UInt8), (83 : UInt8), (84 : UInt8), (53 : UInt8), (69 : UInt8), (68 : UInt8), (84 : UInt8), (44 : UInt8), (77 : UInt8), (51 : UInt8), (46 : UInt8), (50 : UInt8), (46 : UInt8), (48 : UInt8), (44 : UInt8), (77 : UInt8), (49 : UInt8), (49 : UInt8), (46 : UInt8), (49 : UInt8), (46 : UInt8), (48 : UInt8)], 2, ()) 100 (fun r16 =>
 (if (r16 == 0) then
 xzone_Index ([Eng.V.agg [Eng.V.c (Value.int IntKind.i64 (-18000)), Eng.V.c (Value.bool false), Eng.V.c (Value.string (ByteArray.mk #[(69 : UInt8), (83 : UInt8), (84 : UInt8)]))], Eng.V.agg [Eng.V.c (Value.int IntKind.i64 (-14400)), Eng.V.c (Value.bool true), Eng.V.c (Value.string (ByteArray.mk #[(69 : UInt8), (68 : UInt8), (84 : UInt8)]))]], [Eng.V.agg [Eng.V.c (Value.int IntKind.i64 100), Eng.V.c (Value.int IntKind.i64 1)], Eng.V.agg [Eng.V.c (Value.int IntKind.i64 200), Eng.V.c (Value.int IntKind.i64 0)]], [], ByteArray.mk #[(69 : UInt8), (83 : UInt8), (84 : UInt8), (53 : UInt8), (69 : UInt8), (68 : UInt8), (84 : UInt8), (44 : UInt8), (77 : UInt8), (51 : UInt8), (46 : UInt8), (50 : UInt8), (46 : UInt8), (48 : UInt8), (44 : UInt8), (77 : UInt8), (49 : UInt8), (49 : UInt8), (46 : UInt8), (49 : UInt8), (46 : UInt8), (48 : UInt8)], 2, ()) 300 (fun r17 =>
 (if (r17 == 1) then
 xzone_Lookup ([Eng.V.agg [Eng.V.c (Value.int IntKind.i64 (-18000)), Eng.V.c (Value.bool false), Eng.V.c (Value.string (ByteArray.mk #[(69 : UInt8), (83 : UInt8), (84 : UInt8)]))], Eng.V.agg [Eng.V.c (Value.int IntKind.i64 (-14400)), Eng.V.c (Value.bool true), Eng.V.c (Value.string (ByteArray.mk #[(69 : UInt8), (68 : UInt8), (84 : UInt8)]))]], [Eng.V.agg [Eng.V.c (Value.int IntKind.i64 100), Eng.V.c (Value.int IntKind.i64 1)], Eng.V.agg [Eng.V.c (Value.int IntKind.i64 200), Eng.V.c (Value.int IntKind.i64 0)]], [], ByteArray.mk #[(69 : UInt8), (83 : UInt8), (84 : UInt8), (53 : UInt8), (69 : UInt8), (68 : UInt8), (84 : UInt8), (44 : UInt8), (77 : UInt8), (51 : UInt8), (46 : UInt8), (50 : UInt8), (46 : UInt8), (48 : UInt8), (44 : UInt8), (77 : UInt8), (49 : UInt8), (49 : UInt8), (46 : UInt8), (49 : UInt8), (46 : UInt8), (48 : UInt8)], 2, ()) 50 (fun r18 =>
 (lt (r18.1 == (-18000) && (r18.2.1 == false && (ByteArray.toList r18.2.2.1 == ByteArray.toList (ByteArray.mk #[(69 : UInt8), (83 : UInt8), (84 : UInt8)]) && true))) fun v19 =>
 (if v19 then
 xzone_Lookup ([Eng.V.agg [Eng.V.c (Value.int IntKind.i64 (-18000)), Eng.V.c (Value.bool false), Eng.V.c (Value.string (ByteArray.mk #[(69 : UInt8), (83 : UInt8), (84 : UInt8)]))], Eng.V.agg [Eng.V.c (Value.int IntKind.i64 (-14400)), Eng.V.c (Value.bool true), Eng.V.c (Value.string (ByteArray.mk #[(69 : UInt8), (68 : UInt8), (84 : UInt8)]))]], [Eng.V.agg [Eng.V.c (Value.int IntKind.i64 100), Eng.V.c (Value.int IntKind.i64 1)], Eng.V.agg [Eng.V.c (Value.int IntKind.i64 200), Eng.V.c (Value.int IntKind.i64 0)]], [], ByteArray.mk #[(69 : UInt8), (83 : UInt8), (84 : UInt8), (53 : UInt8), (69 : UInt8), (68 : UInt8), (84 : UInt8), (44 : UInt8), (77 : UInt8), (51 : UInt8), (46 : UInt8), (50 : UInt8), (46 : UInt8), (48 : UInt8), (44 : UInt8), (77 : UInt8), (49 : UInt8), (49 : UInt8), (46 : UInt8), (49 : UInt8), (46 : UInt8), (48 : UInt8)], 2, ()) 150 (fun r20 =>
 (lt (r20.1 == (-14400) && (r20.2.1 == true && (ByteArray.toList r20.2.2.1 == ByteArray.toList (ByteArray.mk #[(69 : UInt8), (68 : UInt8), (84 : UInt8)]) && true))) fun v21 =>
 (if v21 then
 (dup (
 xzone_Lookup ([Eng.V.agg [Eng.V.c (Value.int IntKind.i64 (-18000)), Eng.V.c (Value.bool false), Eng.V.c (Value.string (ByteArray.mk #[(69 : UInt8), (83 : UInt8), (84 : UInt8)]))], Eng.V.agg [Eng.V.c (Value.int IntKind.i64 (-14400)), Eng.V.c (Value.bool true), Eng.V.c (Value.string (ByteArray.mk #[(69 : UInt8), (68 : UInt8), (84 : UInt8)]))]], [Eng.V.agg [Eng.V.c (Value.int IntKind.i64 100), Eng.V.c (Value.int IntKind.i64 1)], Eng.V.agg [Eng.V.c (Value.int IntKind.i64 200), Eng.V.c (Value.int IntKind.i64 0)]], [], ByteArray.mk #[(69 : UInt8), (83 : UInt8), (84 : UInt8), (53 : UInt8), (69 : UInt8), (68 : UInt8), (84 : UInt8), (44 : UInt8), (77 : UInt8), (51 : UInt8), (46 : UInt8), (50 : UInt8), (46 : UInt8), (48 : UInt8), (44 : UInt8), (77 : UInt8), (49 : UInt8), (49 : UInt8), (46 : UInt8), (49 : UInt8), (46 : UInt8), (48 : UInt8)], 2, ()) 1710054000 (fun r22 =>
 (lt (r22.1 == (-14400) && (r22.2.1 == true && (ByteArray.toList r22.2.2.1 == ByteArray.toList (ByteArray.mk #[(69 : UInt8), (68 : UInt8), (84 : UInt8)]) && true))) fun v23 =>
 (if v23 then
 xzone_Lookup ([Eng.V.agg [Eng.V.c (Value.int IntKind.i64 (-18000)), Eng.V.c (Value.bool false), Eng.V.c (Value.string (ByteArray.mk #[(69 : UInt8), (83 : UInt8), (84 : UInt8)]))], Eng.V.agg [Eng.V.c (Value.int IntKind.i64 (-14400)), Eng.V.c (Value.bool true), Eng.V.c (Value.string (ByteArray.mk #[(69 : UInt8), (68 : UInt8), (84 : UInt8)]))]], [Eng.V.agg [Eng.V.c (Value.int IntKind.i64 100), Eng.V.c (Value.int IntKind.i64 1)], Eng.V.agg [Eng.V.c (Value.int IntKind.i64 200), Eng.V.c (Value.int IntKind.i64 0)]], [], ByteArray.mk #[], 2, ()) 1710054000 (fun r24 =>
 (lt (r24.1 == (-18000) && (r24.2.1 == false && (ByteArray.toList r24.2.2.1 == ByteArray.toList (ByteArray.mk #[(69 : UInt8), (83 : UInt8), (84 : UInt8)]) && true))) fun v25 =>
 (if v25 then
 xzone_Posix ([Eng.V.agg [Eng.V.c (Value.int IntKind.i64 (-18000)), Eng.V.c (Value.bool false), Eng.V.c (Value.string (ByteArray.mk #[(69 : UInt8), (83 : UInt8), (84 : UInt8)]))], Eng.V.agg [Eng.V.c (Value.int IntKind.i64 (-14400)), Eng.V.c (Value.bool true), Eng.V.c (Value.string (ByteArray.mk #[(69 : UInt8), (68 : UInt8), (84 : UInt8)]))]], [Eng.V.agg [Eng.V.c (Value.int IntKind.i64 100), Eng.V.c (Value.int IntKind.i64 1)], Eng.V.agg [Eng.V.c (Value.int IntKind.i64 200), Eng.V.c (Value.int IntKind.i64 0)]], [Eng.V.agg [Eng.V.c (Value.int IntKind.i64 78796800), Eng.V.c (Value.int IntKind.i64 1)]], ByteArray.mk #[], 2, ()) 78796800 (fun r26 =>
 (if (r26 == 78796799) then
 xzone_Posix ([Eng.V.agg [Eng.V.c (Value.int IntKind.i64 (-18000)), Eng.V.c (Value.bool false), Eng.V.c (Value.string (ByteArray.mk #[(69 : UInt8), (83 : UInt8), (84 : UInt8)]))], Eng.V.agg [Eng.V.c (Value.int IntKind.i64 (-14400)), Eng.V.c (Value.bool true), Eng.V.c (Value.string (ByteArray.mk #[(69 : UInt8), (68 : UInt8), (84 : UInt8)]))]], [Eng.V.agg [Eng.V.c (Value.int IntKind.i64 100), Eng.V.c (Value.int IntKind.i64 1)], Eng.V.agg [Eng.V.c (Value.int IntKind.i64 200), Eng.V.c (Value.int IntKind.i64 0)]], [Eng.V.agg [Eng.V.c (Value.int IntKind.i64 78796800), Eng.V.c (Value.int IntKind.i64 1)]], ByteArray.mk #[], 2, ()) 78796799 (fun r27 =>
 (if (r27 == 78796799) then
 xzone_Same (r1, List.set r4 (0 : Nat) (Eng.setE (List.getD r4 (0 : Nat) Eng.V.bad) (0 : Nat) [Eng.V.c (Value.int IntKind.i64 5)]), r7, r0.2.2.2) ([Eng.V.agg [Eng.V.c (Value.int IntKind.i64 (-18000)), Eng.V.c (Value.bool false), Eng.V.c (Value.string (ByteArray.mk #[(69 : UInt8), (83 : UInt8), (84 : UInt8)]))], Eng.V.agg [Eng.V.c (Value.int IntKind.i64 (-14400)), Eng.V.c (Value.bool true), Eng.V.c (Value.string (ByteArray.mk #[(69 : UInt8), (68 : UInt8), (84 : UInt8)]))]], [Eng.V.agg [Eng.V.c (Value.int IntKind.i64 100), Eng.V.c (Value.int IntKind.i64 1)], Eng.V.agg [Eng.V.c (Value.int IntKind.i64 200), Eng.V.c (Value.int IntKind.i64 0)]], [], ByteArray.mk #[(69 : UInt8), (83 : UInt8), (84 : UInt8), (53 : UInt8), (69 : UInt8), (68 : UInt8), (84 : UInt8), (44 : UInt8), (77 : UInt8), (51 : UInt8), (46 : UInt8), (50 : UInt8), (46 : UInt8), (48 : UInt8), (44 : UInt8), (77 : UInt8), (49 : UInt8), (49 : UInt8), (46 : UInt8), (49 : UInt8), (46 : UInt8), (48 : UInt8)], 2, ()) (fun r28 =>
 (if (!r28) then
 xzone_Copy ([Eng.V.agg [Eng.V.c (Value.int IntKind.i64 (-18000)), Eng.V.c (Value.bool false), Eng.V.c (Value.string (ByteArray.mk #[(69 : UInt8), (83 : UInt8), (84 : UInt8)]))], Eng.V.agg [Eng.V.c (Value.int IntKind.i64 (-14400)), Eng.V.c (Value.bool true), Eng.V.c (Value.string (ByteArray.mk #[(69 : UInt8), (68 : UInt8), (84 : UInt8)]))]], [Eng.V.agg [Eng.V.c (Value.int IntKind.i64 100), Eng.V.c (Value.int IntKind.i64 1)], Eng.V.agg [Eng.V.c (Value.int IntKind.i64 200), Eng.V.c (Value.int IntKind.i64 0)]], [], ByteArray.mk #[(69 : UInt8), (83 : UInt8), (84 : UInt8), (53 : UInt8), (69 : UInt8), (68 : UInt8), (84 : UInt8), (44 : UInt8), (77 : UInt8), (51 : UInt8), (46 : UInt8), (50 : UInt8), (46 : UInt8), (48 : UInt8), (44 : UInt8), (77 : UInt8), (49 : UInt8), (49 : UInt8), (46 : UInt8), (49 : UInt8), (46 : UInt8), (48 : UInt8)], 2, ()) (fun r29 r30 r31 r32 r33 r34 r35 r36 r37 r38 =>
 xzone_Same (r30, r33, r36, r29.2.2.2) ([Eng.V.agg [Eng.V.c (Value.int IntKind.i64 (-18000)), Eng.V.c (Value.bool false), Eng.V.c (Value.string (ByteArray.mk #[(69 : UInt8), (83 : UInt8), (84 : UInt8)]))], Eng.V.agg [Eng.V.c (Value.int IntKind.i64 (-14400)), Eng.V.c (Value.bool true), Eng.V.c (Value.string (ByteArray.mk #[(69 : UInt8), (68 : UInt8), (84 : UInt8)]))]], [Eng.V.agg [Eng.V.c (Value.int IntKind.i64 100), Eng.V.c (Value.int IntKind.i64 1)], Eng.V.agg [Eng.V.c (Value.int IntKind.i64 200), Eng.V.c (Value.int IntKind.i64 0)]], [], ByteArray.mk #[(69 : UInt8), (83 : UInt8), (84 : UInt8), (53 : UInt8), (69 : UInt8), (68 : UInt8), (84 : UInt8), (44 : UInt8), (77 : UInt8), (51 : UInt8), (46 : UInt8), (50 : UInt8), (46 : UInt8), (48 : UInt8), (44 : UInt8), (77 : UInt8), (49 : UInt8), (49 : UInt8), (46 : UInt8), (49 : UInt8), (46 : UInt8), (48 : UInt8)], 2, ()) (fun r39 =>
 K r39))
 else
 K false))
 else
 K false))
 else
 K false))
 else
 K false)))
 else
 K false)))))
 else
 (dup (
 K false)))))
 else
 (dup (
 K false)))))
 else
 (dup (
 K false))))
 else
 (dup (
 K false))))
 else
 (dup (
 K false))))
 else
 (dup (
 K false))))
 else
 (dup (
 K false))))
 else
 (dup (
 K false))))
 else
 (dup (
 K false))))
 else
 (dup (
 K false))))
 else
 False)
 else
 False)
 else
 False)))
def Xepactlaw19_small : Tepactlaw19_small := Yepactlaw19_small Xzone_Copy Xzone_Right Xzone_Index Xzone_Lookup Xzone_Posix Xzone_Same
def Jepactlaw19_small (X : Tepactlaw19_small) : Inst := mkI 9 .nil .nil pL11 .nil X
def Iepactlaw19_small : Inst := Jepactlaw19_small Xepactlaw19_small
theorem Eepactlaw19_small (xzone_Copy : Tzone_Copy) (xzone_Right : Tzone_Right) (xzone_Index : Tzone_Index) (xzone_Lookup : Tzone_Lookup) (xzone_Posix : Tzone_Posix) (xzone_Same : Tzone_Same) : EqF Tryz.prog 129 gives Tryz.f9 [Jzone_Copy xzone_Copy, Jzone_Right xzone_Right, Jzone_Index xzone_Index, Jzone_Lookup xzone_Lookup, Jzone_Posix xzone_Posix, Jzone_Same xzone_Same] [] (Jepactlaw19_small (Yepactlaw19_small xzone_Copy xzone_Right xzone_Index xzone_Lookup xzone_Posix xzone_Same)) := fun x y K => by kernel_rfl
theorem Iepactlaw19_small_ok : InstOk Tryz.prog G.1 Iepactlaw19_small := iok (gives := gives) [] (okCons Izone_Copy_ok (okCons Izone_Right_ok (okCons Izone_Index_ok (okCons Izone_Lookup_ok (okCons Izone_Posix_ok (okCons Izone_Same_ok okNil)))))) 129 follows Tryz.func9 (by kernel_rfl) (fun x => by kernel_rfl) (Eepactlaw19_small Xzone_Copy Xzone_Right Xzone_Index Xzone_Lookup Xzone_Posix Xzone_Same)

/- epact/epactlaw16.Few -/
abbrev Tepactlaw16_Few : Type := Q5 → (Bool → Prop) → Prop
def Lepactlaw16_Few_0 (K : Bool → Prop) : (Q96 → Prop) → Q96 → Prop := fun k1 x2 =>
 (if decide (x2.1.2.2.1 < (↑(List.length x2.2.1.1) : Int)) then
 (if decide (x2.1.2.2.1 < 100) then
 (if 0 ≤ x2.1.2.2.1 ∧ x2.1.2.2.1 < (↑(List.length x2.2.1.1) : Int) then
 (Eng.asStr (Eng.getC x2.2.1.1 (Int.toNat x2.1.2.2.1) (2 : Nat)) False fun t3 =>
 (if decide ((↑(ByteArray.size t3) : Int) > 100) then
 K false
 else
 k1 (((), x2.1.2.1, w64 (x2.1.2.2.1 + 1), ()), x2.2)))
 else
 False)
 else
 (if decide ((↑(List.length x2.2.1.1) : Int) ≤ 100) then
 (if decide ((↑(List.length x2.2.1.2.1) : Int) ≤ 300) then
 (if decide ((↑(List.length x2.2.1.2.2.1) : Int) ≤ 300) then
 K (decide ((↑(ByteArray.size x2.2.1.2.2.2.1) : Int) ≤ 200))
 else
 K false)
 else
 K false)
 else
 K false))
 else
 (if decide ((↑(List.length x2.2.1.1) : Int) ≤ 100) then
 (if decide ((↑(List.length x2.2.1.2.1) : Int) ≤ 300) then
 (if decide ((↑(List.length x2.2.1.2.2.1) : Int) ≤ 300) then
 K (decide ((↑(ByteArray.size x2.2.1.2.2.2.1) : Int) ≤ 200))
 else
 K false)
 else
 K false)
 else
 K false))
def Lepactlaw16_Few_0p : Lp := ⟨14, [.trim 14], pT97, pH98, 0⟩
def Yepactlaw16_Few (a0 : Q5) (K : Bool → Prop) : Prop :=
 lp (Lepactlaw16_Few_0 K) (((), false, 0, ()), a0, ())
def Xepactlaw16_Few : Tepactlaw16_Few := Yepactlaw16_Few
def Jepactlaw16_Few (X : Tepactlaw16_Few) : Inst := mkI 10 pL7 .nil pL11 .nil X
def Iepactlaw16_Few : Inst := Jepactlaw16_Few Xepactlaw16_Few
theorem Eepactlaw16_Few : EqF Tryz.prog 45 gives Tryz.f10 [] [Lepactlaw16_Few_0p] (Jepactlaw16_Few (Yepactlaw16_Few)) := fun x y K => by kernel_rfl
theorem Iepactlaw16_Few_ok : InstOk Tryz.prog G.1 Iepactlaw16_Few := iok (gives := gives) [Lepactlaw16_Few_0p] okNil 45 follows Tryz.func10 (by kernel_rfl) (fun x => by kernel_rfl) (Eepactlaw16_Few)

/- epact/record.Step$1 -/
abbrev Trecord_Step_1 : Type := Int → Int → (List Eng.V) → Bool → Bool → (Bool → Int → (List Eng.V) → Bool → Bool → Prop) → Prop
def Yrecord_Step_1 (a0 : Int) (a1 : Int) (a2 : (List Eng.V)) (a3 : Bool) (a4 : Bool) (K : Bool → Int → (List Eng.V) → Bool → Bool → Prop) : Prop :=
 (if 0 ≤ a0 ∧ a0 < (↑(List.length a2) : Int) then
 (Eng.asInt IntKind.i64 (Eng.getC a2 (Int.toNat a0) (0 : Nat)) False fun n5 =>
 K (decide (n5 ≥ a1)) a1 a2 a3 a4)
 else
 False)
def Xrecord_Step_1 : Trecord_Step_1 := Yrecord_Step_1
def Jrecord_Step_1 (X : Trecord_Step_1) : Inst := mkI 60 pL71 pH78 pL11 pH78 X
def Irecord_Step_1 : Inst := Jrecord_Step_1 Xrecord_Step_1
theorem Erecord_Step_1 : EqF Tryz.prog 12 gives Tryz.f60 [] [] (Jrecord_Step_1 (Yrecord_Step_1)) := fun x y K => by kernel_rfl
theorem Irecord_Step_1_ok : InstOk Tryz.prog G.1 Irecord_Step_1 := iok (gives := gives) [] okNil 12 follows Tryz.func60 (by kernel_rfl) (fun x => by kernel_rfl) (Erecord_Step_1)

/- epact/record.Step$1 -/
abbrev Trecord_Step_1_1 : Type := Int → (List Eng.V) → Int → (Bool → Int → (List Eng.V) → Bool → Bool → Prop) → Prop
def Yrecord_Step_1_1 (a0 : Int) (a1 : (List Eng.V)) (a2 : Int) (K : Bool → Int → (List Eng.V) → Bool → Bool → Prop) : Prop :=
 (if 0 ≤ a0 ∧ a0 < (↑(List.length a1) : Int) then
 (Eng.asInt IntKind.i64 (Eng.getC a1 (Int.toNat a0) (0 : Nat)) False fun n3 =>
 K (decide (n3 ≥ a2)) a2 a1 false true)
 else
 False)
def Xrecord_Step_1_1 : Trecord_Step_1_1 := Yrecord_Step_1_1
def Jrecord_Step_1_1 (X : Trecord_Step_1_1) : Inst := mkI 60 pL71 pH79 pL11 pH78 X
def Irecord_Step_1_1 : Inst := Jrecord_Step_1_1 Xrecord_Step_1_1
theorem Erecord_Step_1_1 : EqF Tryz.prog 12 gives Tryz.f60 [] [] (Jrecord_Step_1_1 (Yrecord_Step_1_1)) := fun x y K => by kernel_rfl
theorem Irecord_Step_1_1_ok : InstOk Tryz.prog G.1 Irecord_Step_1_1 := iok (gives := gives) [] okNil 12 follows Tryz.func60 (by kernel_rfl) (fun x => by kernel_rfl) (Erecord_Step_1_1)

/- sort.Search -/
abbrev Tsort_Search_2 : Type := Int → Int → (List Eng.V) → Bool → Bool → (Int → Int → (List Eng.V) → Bool → Bool → Prop) → Prop
def Lsort_Search_2_0 (xrecord_Step_1_1 : Trecord_Step_1_1) (K : Int → Int → (List Eng.V) → Bool → Bool → Prop) (a1 : Int) (a2 : (List Eng.V)) (a3 : Bool) (a4 : Bool) : (Q80 → Prop) → Q80 → Prop := fun k5 x6 =>
 (if decide (x6.1.2.2.1 < x6.1.2.2.2.1) then
 (lt (Int.fdiv (wu64 (w64 (x6.1.2.2.1 + x6.1.2.2.2.1))) 2) fun v7 =>
 xrecord_Step_1_1 (w64 v7) x6.2.1.1 x6.2.2.1.1 (fun r8 r9 r10 r11 r12 =>
 (if (!r8) then
 k5 ((((), (), (), ()), x6.1.2.1, w64 (w64 v7 + 1), x6.1.2.2.2), (r10, ()), (r9, ()), (x6.2.2.2.1.1, x6.2.2.2.1.2.1, true), ())
 else
 k5 ((((), (), (), ()), x6.1.2.1, x6.1.2.2.1, w64 v7, ()), (r10, ()), (r9, ()), (x6.2.2.2.1.1, x6.2.2.2.1.2.1, true), ()))))
 else
 K x6.1.2.2.1 x6.2.2.1.1 x6.2.1.1 false true)
def Lsort_Search_2_0p : Lp := ⟨114, [.trim 114, .thin 2, .trim 114, .thin 384, .trim 114], pT99, pH82, 0⟩
def Ysort_Search_2 (xrecord_Step_1_1 : Trecord_Step_1_1) (a0 : Int) (a1 : Int) (a2 : (List Eng.V)) (a3 : Bool) (a4 : Bool) (K : Int → Int → (List Eng.V) → Bool → Bool → Prop) : Prop :=
 lp (Lsort_Search_2_0 xrecord_Step_1_1 K a1 a2 a3 a4) ((((), (), (), ()), 0, 0, a0, ()), (a2, ()), (a1, ()), (a2, a3, true), ())
def Xsort_Search_2 : Tsort_Search_2 := Ysort_Search_2 Xrecord_Step_1_1
def Jsort_Search_2 (X : Tsort_Search_2) : Inst := mkI 46 pL100 pH78 pL16 pH78 X
def Isort_Search_2 : Inst := Jsort_Search_2 Xsort_Search_2
theorem Esort_Search_2 (xrecord_Step_1_1 : Trecord_Step_1_1) : EqF Tryz.prog 26 gives Tryz.f46 [Jrecord_Step_1_1 xrecord_Step_1_1] [Lsort_Search_2_0p] (Jsort_Search_2 (Ysort_Search_2 xrecord_Step_1_1)) := fun x y K => by kernel_rfl
theorem Isort_Search_2_ok : InstOk Tryz.prog G.1 Isort_Search_2 := iok (gives := gives) [Lsort_Search_2_0p] (okCons Irecord_Step_1_1_ok okNil) 26 follows Tryz.func46 (by kernel_rfl) (fun x => by kernel_rfl) (Esort_Search_2 Xrecord_Step_1_1)

/- epact/record.Step -/
abbrev Trecord_Step : Type := (List Eng.V) → Int → (Int → Prop) → Prop
def Yrecord_Step (xrecord_leaps : Trecord_leaps) (xsort_Search_2 : Tsort_Search_2) (a0 : (List Eng.V)) (a1 : Int) (K : Int → Prop) : Prop :=
 xrecord_leaps a0 (fun r2 r3 r4 =>
 xsort_Search_2 (↑(List.length r2) : Int) a1 r2 r3 r4 (fun r5 r6 r7 r8 r9 =>
 (if (r5 == (↑(List.length r7) : Int)) then
 K 0
 else
 (if 0 ≤ r5 ∧ r5 < (↑(List.length r7) : Int) then
 (Eng.asInt IntKind.i64 (Eng.getC r7 (Int.toNat r5) (0 : Nat)) False fun n10 =>
 (if (n10 != r6) then
 K 0
 else
 (if (r5 == 0) then
 (if (0 :Int) ≤ 0 ∧ 0 < (↑(List.length r7) : Int) then
 (Eng.asInt IntKind.i64 (Eng.getC r7 (0 : Nat) (1 : Nat)) False fun n11 =>
 K n11)
 else
 False)
 else
 (if 0 ≤ r5 ∧ r5 < (↑(List.length r7) : Int) then
 (Eng.asInt IntKind.i64 (Eng.getC r7 (Int.toNat r5) (1 : Nat)) False fun n12 =>
 (if 0 ≤ w64 (r5 - 1) ∧ w64 (r5 - 1) < (↑(List.length r7) : Int) then
 (Eng.asInt IntKind.i64 (Eng.getC r7 (Int.toNat (w64 (r5 - 1))) (1 : Nat)) False fun n13 =>
 K (w64 (n12 - n13)))
 else
 False))
 else
 False))))
 else
 False))))
def Xrecord_Step : Trecord_Step := Yrecord_Step Xrecord_leaps Xsort_Search_2
def Jrecord_Step (X : Trecord_Step) : Inst := mkI 24 pL84 .nil pL16 .nil X
def Irecord_Step : Inst := Jrecord_Step Xrecord_Step
theorem Erecord_Step (xrecord_leaps : Trecord_leaps) (xsort_Search_2 : Tsort_Search_2) : EqF Tryz.prog 45 gives Tryz.f24 [Jrecord_leaps xrecord_leaps, Jsort_Search_2 xsort_Search_2] [] (Jrecord_Step (Yrecord_Step xrecord_leaps xsort_Search_2)) := fun x y K => by kernel_rfl
theorem Irecord_Step_ok : InstOk Tryz.prog G.1 Irecord_Step := iok (gives := gives) [] (okCons Irecord_leaps_ok (okCons Isort_Search_2_ok okNil)) 45 follows Tryz.func24 (by kernel_rfl) (fun x => by kernel_rfl) (Erecord_Step Xrecord_leaps Xsort_Search_2)

/- epact/epactlaw19.ZonePosix -/
abbrev Tepactlaw19_ZonePosix : Type := Q5 → Int → (Bool → Prop) → Prop
def Yepactlaw19_ZonePosix (xepactlaw19_small : Tepactlaw19_small) (xepactlaw16_Few : Tepactlaw16_Few) (xzone_Right : Tzone_Right) (xzone_Posix : Tzone_Posix) (xrecord_Step : Trecord_Step) (a0 : Q5) (a1 : Int) (K : Bool → Prop) : Prop :=
 xepactlaw19_small (fun r2 =>
 xepactlaw16_Few a0 (fun r3 =>
 (if (!r3) then
 K r2
 else
 xzone_Right a0 (fun r4 =>
 (if (!r4) then
 K r2
 else
 (if decide (a1 ≤ (-1152921504606846976)) then
 K r2
 else
 (if decide (a1 > 1152921504606846976) then
 K r2
 else
 xzone_Posix a0 a1 (fun r5 =>
 xzone_Posix a0 (w64 (a1 - 1)) (fun r6 =>
 (if r2 then
 xrecord_Step a0.2.2.1 a1 (fun r7 =>
 (if (w64 (r5 - r6) == w64 (1 - r7)) then
 (if decide (w64 (r5 - r6) ≥ 0) then
 (if decide (w64 (r5 - r6) ≤ 2) then
 (if decide (a1 ≥ 0) then
 K true
 else
 xzone_Posix a0 a1 (fun r8 =>
 K (r8 == a1)))
 else
 K false)
 else
 K false)
 else
 K false))
 else
 K false))))))))))
def Xepactlaw19_ZonePosix : Tepactlaw19_ZonePosix := Yepactlaw19_ZonePosix Xepactlaw19_small Xepactlaw16_Few Xzone_Right Xzone_Posix Xrecord_Step
def Jepactlaw19_ZonePosix (X : Tepactlaw19_ZonePosix) : Inst := mkI 7 pL77 .nil pL11 .nil X
def Iepactlaw19_ZonePosix : Inst := Jepactlaw19_ZonePosix Xepactlaw19_ZonePosix
theorem Eepactlaw19_ZonePosix (xepactlaw19_small : Tepactlaw19_small) (xepactlaw16_Few : Tepactlaw16_Few) (xzone_Right : Tzone_Right) (xzone_Posix : Tzone_Posix) (xrecord_Step : Trecord_Step) : EqF Tryz.prog 64 gives Tryz.f7 [Jepactlaw19_small xepactlaw19_small, Jepactlaw16_Few xepactlaw16_Few, Jzone_Right xzone_Right, Jzone_Posix xzone_Posix, Jrecord_Step xrecord_Step] [] (Jepactlaw19_ZonePosix (Yepactlaw19_ZonePosix xepactlaw19_small xepactlaw16_Few xzone_Right xzone_Posix xrecord_Step)) := fun x y K => by kernel_rfl
theorem Iepactlaw19_ZonePosix_ok : InstOk Tryz.prog G.1 Iepactlaw19_ZonePosix := iok (gives := gives) [] (okCons Iepactlaw19_small_ok (okCons Iepactlaw16_Few_ok (okCons Izone_Right_ok (okCons Izone_Posix_ok (okCons Irecord_Step_ok okNil))))) 64 follows Tryz.func7 (by kernel_rfl) (fun x => by kernel_rfl) (Eepactlaw19_ZonePosix Xepactlaw19_small Xepactlaw16_Few Xzone_Right Xzone_Posix Xrecord_Step)

/- epact/epactlaw19.ZoneHolds -/
abbrev Tepactlaw19_ZoneHolds : Type := Q5 → Int → (Bool → Prop) → Prop
def Yepactlaw19_ZoneHolds (xepactlaw19_small : Tepactlaw19_small) (xepactlaw16_Few : Tepactlaw16_Few) (xzone_Right : Tzone_Right) (xzone_Index : Tzone_Index) (xzone_Lookup : Tzone_Lookup) (a0 : Q5) (a1 : Int) (K : Bool → Prop) : Prop :=
 xepactlaw19_small (fun r2 =>
 xepactlaw16_Few a0 (fun r3 =>
 (if (!r3) then
 K r2
 else
 (if (!ByteArray.toList a0.2.2.2.1 == ByteArray.toList (ByteArray.mk #[])) then
 K r2
 else
 xzone_Right a0 (fun r4 =>
 (if (!r4) then
 K r2
 else
 (if decide (a1 ≤ (-1152921504606846976)) then
 K r2
 else
 (if decide (a1 > 1152921504606846976) then
 K r2
 else
 xzone_Index a0 a1 (fun r5 =>
 (if decide (r5 < (-1)) then
 K false
 else
 (if decide (r5 ≥ (↑(List.length a0.2.1) : Int)) then
 K false
 else
 (if decide (r5 ≥ 0) then
 (if 0 ≤ r5 ∧ r5 < (↑(List.length a0.2.1) : Int) then
 (Eng.asInt IntKind.i64 (Eng.getC a0.2.1 (Int.toNat r5) (0 : Nat)) False fun n6 =>
 (if decide (n6 > a1) then
 K false
 else
 (if decide (w64 (r5 + 1) < (↑(List.length a0.2.1) : Int)) then
 (if 0 ≤ w64 (r5 + 1) ∧ w64 (r5 + 1) < (↑(List.length a0.2.1) : Int) then
 (Eng.asInt IntKind.i64 (Eng.getC a0.2.1 (Int.toNat (w64 (r5 + 1))) (0 : Nat)) False fun n7 =>
 (if decide (n7 ≤ a1) then
 K false
 else
 (if (0 :Int) ≤ 0 ∧ 0 < (↑(List.length a0.1) : Int) then
 (Eng.asInt IntKind.i64 (Eng.getC a0.1 (0 : Nat) (0 : Nat)) False fun n8 =>
 (Eng.asBool (Eng.getC a0.1 (0 : Nat) (1 : Nat)) False fun b9 =>
 (Eng.asStr (Eng.getC a0.1 (0 : Nat) (2 : Nat)) False fun t10 =>
 (if decide (r5 ≥ 0) then
 (if 0 ≤ r5 ∧ r5 < (↑(List.length a0.2.1) : Int) then
 (Eng.asInt IntKind.i64 (Eng.getC a0.2.1 (Int.toNat r5) (1 : Nat)) False fun n11 =>
 (if 0 ≤ n11 ∧ n11 < (↑(List.length a0.1) : Int) then
 (Eng.asInt IntKind.i64 (Eng.getC a0.1 (Int.toNat n11) (0 : Nat)) False fun n12 =>
 (Eng.asBool (Eng.getC a0.1 (Int.toNat n11) (1 : Nat)) False fun b13 =>
 (Eng.asStr (Eng.getC a0.1 (Int.toNat n11) (2 : Nat)) False fun t14 =>
 xzone_Index a0 (w64 (a1 - 1)) (fun r15 =>
 (if r2 then
 xzone_Lookup a0 a1 (fun r16 =>
 (lt (r16.1 == n12 && (r16.2.1 == b13 && (ByteArray.toList r16.2.2.1 == ByteArray.toList t14 && true))) fun v17 =>
 (if v17 then
 (if (r15 == r5) then
 (if (r15 != r5) then
 K true
 else
 xzone_Lookup a0 (w64 (a1 - 1)) (fun r18 =>
 (lt (r18.1 == n12 && (r18.2.1 == b13 && (ByteArray.toList r18.2.2.1 == ByteArray.toList t14 && true))) fun v19 =>
 K v19)))
 else
 (if (r15 == w64 (r5 - 1)) then
 (if 0 ≤ r5 ∧ r5 < (↑(List.length a0.2.1) : Int) then
 (Eng.asInt IntKind.i64 (Eng.getC a0.2.1 (Int.toNat r5) (0 : Nat)) False fun n20 =>
 (if (n20 == a1) then
 (if (r15 != r5) then
 K true
 else
 xzone_Lookup a0 (w64 (a1 - 1)) (fun r21 =>
 (lt (r21.1 == n12 && (r21.2.1 == b13 && (ByteArray.toList r21.2.2.1 == ByteArray.toList t14 && true))) fun v22 =>
 K v22)))
 else
 K false))
 else
 False)
 else
 K false))
 else
 K false)))
 else
 K false)))))
 else
 False))
 else
 False)
 else
 xzone_Index a0 (w64 (a1 - 1)) (fun r23 =>
 (if r2 then
 xzone_Lookup a0 a1 (fun r24 =>
 (lt (r24.1 == n8 && (r24.2.1 == b9 && (ByteArray.toList r24.2.2.1 == ByteArray.toList t10 && true))) fun v25 =>
 (if v25 then
 (if (r23 == r5) then
 (if (r23 != r5) then
 K true
 else
 xzone_Lookup a0 (w64 (a1 - 1)) (fun r26 =>
 (lt (r26.1 == n8 && (r26.2.1 == b9 && (ByteArray.toList r26.2.2.1 == ByteArray.toList t10 && true))) fun v27 =>
 K v27)))
 else
 (if (r23 == w64 (r5 - 1)) then
 (if 0 ≤ r5 ∧ r5 < (↑(List.length a0.2.1) : Int) then
 (Eng.asInt IntKind.i64 (Eng.getC a0.2.1 (Int.toNat r5) (0 : Nat)) False fun n28 =>
 (if (n28 == a1) then
 (if (r23 != r5) then
 K true
 else
 xzone_Lookup a0 (w64 (a1 - 1)) (fun r29 =>
 (lt (r29.1 == n8 && (r29.2.1 == b9 && (ByteArray.toList r29.2.2.1 == ByteArray.toList t10 && true))) fun v30 =>
 K v30)))
 else
 K false))
 else
 False)
 else
 K false))
 else
 K false)))
 else
 K false))))))
 else
 False)))
 else
 False)
 else
 (if (0 :Int) ≤ 0 ∧ 0 < (↑(List.length a0.1) : Int) then
 (Eng.asInt IntKind.i64 (Eng.getC a0.1 (0 : Nat) (0 : Nat)) False fun n31 =>
 (Eng.asBool (Eng.getC a0.1 (0 : Nat) (1 : Nat)) False fun b32 =>
 (Eng.asStr (Eng.getC a0.1 (0 : Nat) (2 : Nat)) False fun t33 =>
 (if decide (r5 ≥ 0) then
 (if 0 ≤ r5 ∧ r5 < (↑(List.length a0.2.1) : Int) then
 (Eng.asInt IntKind.i64 (Eng.getC a0.2.1 (Int.toNat r5) (1 : Nat)) False fun n34 =>
 (if 0 ≤ n34 ∧ n34 < (↑(List.length a0.1) : Int) then
 (Eng.asInt IntKind.i64 (Eng.getC a0.1 (Int.toNat n34) (0 : Nat)) False fun n35 =>
 (Eng.asBool (Eng.getC a0.1 (Int.toNat n34) (1 : Nat)) False fun b36 =>
 (Eng.asStr (Eng.getC a0.1 (Int.toNat n34) (2 : Nat)) False fun t37 =>
 xzone_Index a0 (w64 (a1 - 1)) (fun r38 =>
 (if r2 then
 xzone_Lookup a0 a1 (fun r39 =>
 (lt (r39.1 == n35 && (r39.2.1 == b36 && (ByteArray.toList r39.2.2.1 == ByteArray.toList t37 && true))) fun v40 =>
 (if v40 then
 (if (r38 == r5) then
 (if (r38 != r5) then
 K true
 else
 xzone_Lookup a0 (w64 (a1 - 1)) (fun r41 =>
 (lt (r41.1 == n35 && (r41.2.1 == b36 && (ByteArray.toList r41.2.2.1 == ByteArray.toList t37 && true))) fun v42 =>
 K v42)))
 else
 (if (r38 == w64 (r5 - 1)) then
 (if 0 ≤ r5 ∧ r5 < (↑(List.length a0.2.1) : Int) then
 (Eng.asInt IntKind.i64 (Eng.getC a0.2.1 (Int.toNat r5) (0 : Nat)) False fun n43 =>
 (if (n43 == a1) then
 (if (r38 != r5) then
 K true
 else
 xzone_Lookup a0 (w64 (a1 - 1)) (fun r44 =>
 (lt (r44.1 == n35 && (r44.2.1 == b36 && (ByteArray.toList r44.2.2.1 == ByteArray.toList t37 && true))) fun v45 =>
 K v45)))
 else
 K false))
 else
 False)
 else
 K false))
 else
 K false)))
 else
 K false)))))
 else
 False))
 else
 False)
 else
 xzone_Index a0 (w64 (a1 - 1)) (fun r46 =>
 (if r2 then
 xzone_Lookup a0 a1 (fun r47 =>
 (lt (r47.1 == n31 && (r47.2.1 == b32 && (ByteArray.toList r47.2.2.1 == ByteArray.toList t33 && true))) fun v48 =>
 (if v48 then
 (if (r46 == r5) then
 (if (r46 != r5) then
 K true
 else
 xzone_Lookup a0 (w64 (a1 - 1)) (fun r49 =>
 (lt (r49.1 == n31 && (r49.2.1 == b32 && (ByteArray.toList r49.2.2.1 == ByteArray.toList t33 && true))) fun v50 =>
 K v50)))
 else
 (if (r46 == w64 (r5 - 1)) then
 (if 0 ≤ r5 ∧ r5 < (↑(List.length a0.2.1) : Int) then
 (Eng.asInt IntKind.i64 (Eng.getC a0.2.1 (Int.toNat r5) (0 : Nat)) False fun n51 =>
 (if (n51 == a1) then
 (if (r46 != r5) then
 K true
 else
 xzone_Lookup a0 (w64 (a1 - 1)) (fun r52 =>
 (lt (r52.1 == n31 && (r52.2.1 == b32 && (ByteArray.toList r52.2.2.1 == ByteArray.toList t33 && true))) fun v53 =>
 K v53)))
 else
 K false))
 else
 False)
 else
 K false))
 else
 K false)))
 else
 K false))))))
 else
 False))))
 else
 False)
 else
 (if decide (w64 (r5 + 1) < (↑(List.length a0.2.1) : Int)) then
 (if 0 ≤ w64 (r5 + 1) ∧ w64 (r5 + 1) < (↑(List.length a0.2.1) : Int) then
 (Eng.asInt IntKind.i64 (Eng.getC a0.2.1 (Int.toNat (w64 (r5 + 1))) (0 : Nat)) False fun n54 =>
 (if decide (n54 ≤ a1) then
 K false
 else
 (if (0 :Int) ≤ 0 ∧ 0 < (↑(List.length a0.1) : Int) then
 (Eng.asInt IntKind.i64 (Eng.getC a0.1 (0 : Nat) (0 : Nat)) False fun n55 =>
 (Eng.asBool (Eng.getC a0.1 (0 : Nat) (1 : Nat)) False fun b56 =>
 (Eng.asStr (Eng.getC a0.1 (0 : Nat) (2 : Nat)) False fun t57 =>
 (if decide (r5 ≥ 0) then
 (if 0 ≤ r5 ∧ r5 < (↑(List.length a0.2.1) : Int) then
 (Eng.asInt IntKind.i64 (Eng.getC a0.2.1 (Int.toNat r5) (1 : Nat)) False fun n58 =>
 (if 0 ≤ n58 ∧ n58 < (↑(List.length a0.1) : Int) then
 (Eng.asInt IntKind.i64 (Eng.getC a0.1 (Int.toNat n58) (0 : Nat)) False fun n59 =>
 (Eng.asBool (Eng.getC a0.1 (Int.toNat n58) (1 : Nat)) False fun b60 =>
 (Eng.asStr (Eng.getC a0.1 (Int.toNat n58) (2 : Nat)) False fun t61 =>
 xzone_Index a0 (w64 (a1 - 1)) (fun r62 =>
 (if r2 then
 xzone_Lookup a0 a1 (fun r63 =>
 (lt (r63.1 == n59 && (r63.2.1 == b60 && (ByteArray.toList r63.2.2.1 == ByteArray.toList t61 && true))) fun v64 =>
 (if v64 then
 (if (r62 == r5) then
 (if (r62 != r5) then
 K true
 else
 xzone_Lookup a0 (w64 (a1 - 1)) (fun r65 =>
 (lt (r65.1 == n59 && (r65.2.1 == b60 && (ByteArray.toList r65.2.2.1 == ByteArray.toList t61 && true))) fun v66 =>
 K v66)))
 else
 (if (r62 == w64 (r5 - 1)) then
 (if 0 ≤ r5 ∧ r5 < (↑(List.length a0.2.1) : Int) then
 (Eng.asInt IntKind.i64 (Eng.getC a0.2.1 (Int.toNat r5) (0 : Nat)) False fun n67 =>
 (if (n67 == a1) then
 (if (r62 != r5) then
 K true
 else
 xzone_Lookup a0 (w64 (a1 - 1)) (fun r68 =>
 (lt (r68.1 == n59 && (r68.2.1 == b60 && (ByteArray.toList r68.2.2.1 == ByteArray.toList t61 && true))) fun v69 =>
 K v69)))
 else
 K false))
 else
 False)
 else
 K false))
 else
 K false)))
 else
 K false)))))
 else
 False))
 else
 False)
 else
 xzone_Index a0 (w64 (a1 - 1)) (fun r70 =>
 (if r2 then
 xzone_Lookup a0 a1 (fun r71 =>
 (lt (r71.1 == n55 && (r71.2.1 == b56 && (ByteArray.toList r71.2.2.1 == ByteArray.toList t57 && true))) fun v72 =>
 (if v72 then
 (if (r70 == r5) then
 (if (r70 != r5) then
 K true
 else
 xzone_Lookup a0 (w64 (a1 - 1)) (fun r73 =>
 (lt (r73.1 == n55 && (r73.2.1 == b56 && (ByteArray.toList r73.2.2.1 == ByteArray.toList t57 && true))) fun v74 =>
 K v74)))
 else
 (if (r70 == w64 (r5 - 1)) then
 (if 0 ≤ r5 ∧ r5 < (↑(List.length a0.2.1) : Int) then
 (Eng.asInt IntKind.i64 (Eng.getC a0.2.1 (Int.toNat r5) (0 : Nat)) False fun n75 =>
 (if (n75 == a1) then
 (if (r70 != r5) then
 K true
 else
 xzone_Lookup a0 (w64 (a1 - 1)) (fun r76 =>
 (lt (r76.1 == n55 && (r76.2.1 == b56 && (ByteArray.toList r76.2.2.1 == ByteArray.toList t57 && true))) fun v77 =>
 K v77)))
 else
 K false))
 else
 False)
 else
 K false))
 else
 K false)))
 else
 K false))))))
 else
 False)))
 else
 False)
 else
 (if (0 :Int) ≤ 0 ∧ 0 < (↑(List.length a0.1) : Int) then
 (Eng.asInt IntKind.i64 (Eng.getC a0.1 (0 : Nat) (0 : Nat)) False fun n78 =>
 (Eng.asBool (Eng.getC a0.1 (0 : Nat) (1 : Nat)) False fun b79 =>
 (Eng.asStr (Eng.getC a0.1 (0 : Nat) (2 : Nat)) False fun t80 =>
 (if decide (r5 ≥ 0) then
 (if 0 ≤ r5 ∧ r5 < (↑(List.length a0.2.1) : Int) then
 (Eng.asInt IntKind.i64 (Eng.getC a0.2.1 (Int.toNat r5) (1 : Nat)) False fun n81 =>
 (if 0 ≤ n81 ∧ n81 < (↑(List.length a0.1) : Int) then
 (Eng.asInt IntKind.i64 (Eng.getC a0.1 (Int.toNat n81) (0 : Nat)) False fun n82 =>
 (Eng.asBool (Eng.getC a0.1 (Int.toNat n81) (1 : Nat)) False fun b83 =>
 (Eng.asStr (Eng.getC a0.1 (Int.toNat n81) (2 : Nat)) False fun t84 =>
 xzone_Index a0 (w64 (a1 - 1)) (fun r85 =>
 (if r2 then
 xzone_Lookup a0 a1 (fun r86 =>
 (lt (r86.1 == n82 && (r86.2.1 == b83 && (ByteArray.toList r86.2.2.1 == ByteArray.toList t84 && true))) fun v87 =>
 (if v87 then
 (if (r85 == r5) then
 (if (r85 != r5) then
 K true
 else
 xzone_Lookup a0 (w64 (a1 - 1)) (fun r88 =>
 (lt (r88.1 == n82 && (r88.2.1 == b83 && (ByteArray.toList r88.2.2.1 == ByteArray.toList t84 && true))) fun v89 =>
 K v89)))
 else
 (if (r85 == w64 (r5 - 1)) then
 (if 0 ≤ r5 ∧ r5 < (↑(List.length a0.2.1) : Int) then
 (Eng.asInt IntKind.i64 (Eng.getC a0.2.1 (Int.toNat r5) (0 : Nat)) False fun n90 =>
 (if (n90 == a1) then
 (if (r85 != r5) then
 K true
 else
 xzone_Lookup a0 (w64 (a1 - 1)) (fun r91 =>
 (lt (r91.1 == n82 && (r91.2.1 == b83 && (ByteArray.toList r91.2.2.1 == ByteArray.toList t84 && true))) fun v92 =>
 K v92)))
 else
 K false))
 else
 False)
 else
 K false))
 else
 K false)))
 else
 K false)))))
 else
 False))
 else
 False)
 else
 xzone_Index a0 (w64 (a1 - 1)) (fun r93 =>
 (if r2 then
 xzone_Lookup a0 a1 (fun r94 =>
 (lt (r94.1 == n78 && (r94.2.1 == b79 && (ByteArray.toList r94.2.2.1 == ByteArray.toList t80 && true))) fun v95 =>
 (if v95 then
 (if (r93 == r5) then
 (if (r93 != r5) then
 K true
 else
 xzone_Lookup a0 (w64 (a1 - 1)) (fun r96 =>
 (lt (r96.1 == n78 && (r96.2.1 == b79 && (ByteArray.toList r96.2.2.1 == ByteArray.toList t80 && true))) fun v97 =>
 K v97)))
 else
 (if (r93 == w64 (r5 - 1)) then
 (if 0 ≤ r5 ∧ r5 < (↑(List.length a0.2.1) : Int) then
 (Eng.asInt IntKind.i64 (Eng.getC a0.2.1 (Int.toNat r5) (0 : Nat)) False fun n98 =>
 (if (n98 == a1) then
 (if (r93 != r5) then
 K true
 else
 xzone_Lookup a0 (w64 (a1 - 1)) (fun r99 =>
 (lt (r99.1 == n78 && (r99.2.1 == b79 && (ByteArray.toList r99.2.2.1 == ByteArray.toList t80 && true))) fun v100 =>
 K v100)))
 else
 K false))
 else
 False)
 else
 K false))
 else
 K false)))
 else
 K false))))))
 else
 False))))))))))))))
def Xepactlaw19_ZoneHolds : Tepactlaw19_ZoneHolds := Yepactlaw19_ZoneHolds Xepactlaw19_small Xepactlaw16_Few Xzone_Right Xzone_Index Xzone_Lookup
def Jepactlaw19_ZoneHolds (X : Tepactlaw19_ZoneHolds) : Inst := mkI 4 pL77 .nil pL11 .nil X
def Iepactlaw19_ZoneHolds : Inst := Jepactlaw19_ZoneHolds Xepactlaw19_ZoneHolds
theorem Eepactlaw19_ZoneHolds (xepactlaw19_small : Tepactlaw19_small) (xepactlaw16_Few : Tepactlaw16_Few) (xzone_Right : Tzone_Right) (xzone_Index : Tzone_Index) (xzone_Lookup : Tzone_Lookup) : EqF Tryz.prog 141 gives Tryz.f4 [Jepactlaw19_small xepactlaw19_small, Jepactlaw16_Few xepactlaw16_Few, Jzone_Right xzone_Right, Jzone_Index xzone_Index, Jzone_Lookup xzone_Lookup] [] (Jepactlaw19_ZoneHolds (Yepactlaw19_ZoneHolds xepactlaw19_small xepactlaw16_Few xzone_Right xzone_Index xzone_Lookup)) := fun x y K => by kernel_rfl
theorem Iepactlaw19_ZoneHolds_ok : InstOk Tryz.prog G.1 Iepactlaw19_ZoneHolds := iok (gives := gives) [] (okCons Iepactlaw19_small_ok (okCons Iepactlaw16_Few_ok (okCons Izone_Right_ok (okCons Izone_Index_ok (okCons Izone_Lookup_ok okNil))))) 141 follows Tryz.func4 (by kernel_rfl) (fun x => by kernel_rfl) (Eepactlaw19_ZoneHolds Xepactlaw19_small Xepactlaw16_Few Xzone_Right Xzone_Index Xzone_Lookup)

/- epact/epactlaw19.ZoneFoots -/
abbrev Tepactlaw19_ZoneFoots : Type := Q5 → Int → (Bool → Prop) → Prop
def Yepactlaw19_ZoneFoots (xepactlaw19_small : Tepactlaw19_small) (xepactlaw16_Few : Tepactlaw16_Few) (xzone_Right : Tzone_Right) (xfoot_Parse : Tfoot_Parse) (xzone_Index : Tzone_Index) (xzone_Lookup : Tzone_Lookup) (xzone_Posix : Tzone_Posix) (xfoot_Lookup : Tfoot_Lookup) (a0 : Q5) (a1 : Int) (K : Bool → Prop) : Prop :=
 xepactlaw19_small (fun r2 =>
 xepactlaw16_Few a0 (fun r3 =>
 (if (!r3) then
 K r2
 else
 (if (ByteArray.toList a0.2.2.2.1 == ByteArray.toList (ByteArray.mk #[])) then
 K r2
 else
 xzone_Right a0 (fun r4 =>
 (if (!r4) then
 K r2
 else
 (if decide (a1 < (-1152921504606846976)) then
 K r2
 else
 (if decide (a1 > 1152921504606846976) then
 K r2
 else
 xfoot_Parse a0.2.2.2.1 (fun r5 r6 =>
 xzone_Index a0 a1 (fun r7 =>
 (if (r7 == w64 ((↑(List.length a0.2.1) : Int) - 1)) then
 (if r2 then
 (if r6 then
 xzone_Lookup a0 a1 (fun r8 =>
 xzone_Posix a0 a1 (fun r9 =>
 xfoot_Lookup r5 r9 (fun r10 =>
 (lt (r8.1 == r10.1 && (r8.2.1 == r10.2.1 && (ByteArray.toList r8.2.2.1 == ByteArray.toList r10.2.2.1 && true))) fun v11 =>
 K v11))))
 else
 K false)
 else
 K false)
 else
 (if r2 then
 (if r6 then
 xzone_Right (a0.1, a0.2.1, a0.2.2.1, ByteArray.mk #[], a0.2.2.2.2) (fun r12 =>
 (if r12 then
 xzone_Lookup a0 a1 (fun r13 =>
 xzone_Lookup (a0.1, a0.2.1, a0.2.2.1, ByteArray.mk #[], a0.2.2.2.2) a1 (fun r14 =>
 (lt (r13.1 == r14.1 && (r13.2.1 == r14.2.1 && (ByteArray.toList r13.2.2.1 == ByteArray.toList r14.2.2.1 && true))) fun v15 =>
 K v15)))
 else
 K false))
 else
 K false)
 else
 K false))))))))))))
def Xepactlaw19_ZoneFoots : Tepactlaw19_ZoneFoots := Yepactlaw19_ZoneFoots Xepactlaw19_small Xepactlaw16_Few Xzone_Right Xfoot_Parse Xzone_Index Xzone_Lookup Xzone_Posix Xfoot_Lookup
def Jepactlaw19_ZoneFoots (X : Tepactlaw19_ZoneFoots) : Inst := mkI 5 pL77 .nil pL11 .nil X
def Iepactlaw19_ZoneFoots : Inst := Jepactlaw19_ZoneFoots Xepactlaw19_ZoneFoots
theorem Eepactlaw19_ZoneFoots (xepactlaw19_small : Tepactlaw19_small) (xepactlaw16_Few : Tepactlaw16_Few) (xzone_Right : Tzone_Right) (xfoot_Parse : Tfoot_Parse) (xzone_Index : Tzone_Index) (xzone_Lookup : Tzone_Lookup) (xzone_Posix : Tzone_Posix) (xfoot_Lookup : Tfoot_Lookup) : EqF Tryz.prog 82 gives Tryz.f5 [Jepactlaw19_small xepactlaw19_small, Jepactlaw16_Few xepactlaw16_Few, Jzone_Right xzone_Right, Jfoot_Parse xfoot_Parse, Jzone_Index xzone_Index, Jzone_Lookup xzone_Lookup, Jzone_Posix xzone_Posix, Jfoot_Lookup xfoot_Lookup] [] (Jepactlaw19_ZoneFoots (Yepactlaw19_ZoneFoots xepactlaw19_small xepactlaw16_Few xzone_Right xfoot_Parse xzone_Index xzone_Lookup xzone_Posix xfoot_Lookup)) := fun x y K => by kernel_rfl
theorem Iepactlaw19_ZoneFoots_ok : InstOk Tryz.prog G.1 Iepactlaw19_ZoneFoots := iok (gives := gives) [] (okCons Iepactlaw19_small_ok (okCons Iepactlaw16_Few_ok (okCons Izone_Right_ok (okCons Ifoot_Parse_ok (okCons Izone_Index_ok (okCons Izone_Lookup_ok (okCons Izone_Posix_ok (okCons Ifoot_Lookup_ok okNil)))))))) 82 follows Tryz.func5 (by kernel_rfl) (fun x => by kernel_rfl) (Eepactlaw19_ZoneFoots Xepactlaw19_small Xepactlaw16_Few Xzone_Right Xfoot_Parse Xzone_Index Xzone_Lookup Xzone_Posix Xfoot_Lookup)

/- epact/epactlaw19.ZoneVersions -/
abbrev Tepactlaw19_ZoneVersions : Type := Q5 → Int → (Bool → Prop) → Prop
def Yepactlaw19_ZoneVersions (xepactlaw19_small : Tepactlaw19_small) (xepactlaw16_Few : Tepactlaw16_Few) (xzone_Right : Tzone_Right) (xzone_Lookup : Tzone_Lookup) (xzone_Same : Tzone_Same) (a0 : Q5) (a1 : Int) (K : Bool → Prop) : Prop :=
 xepactlaw19_small (fun r2 =>
 xepactlaw16_Few a0 (fun r3 =>
 (if (!r3) then
 K r2
 else
 xzone_Right a0 (fun r4 =>
 (if (!r4) then
 K r2
 else
 (if decide (a1 < (-1152921504606846976)) then
 K r2
 else
 (if decide (a1 > 1152921504606846976) then
 K r2
 else
 (if decide (a0.2.2.2.2.1 < 2) then
 K r2
 else
 (if decide (a0.2.2.2.2.1 > 3) then
 K r2
 else
 (if r2 then
 xzone_Right (a0.1, a0.2.1, a0.2.2.1, a0.2.2.2.1, w64 (a0.2.2.2.2.1 + 1), ()) (fun r5 =>
 (if r5 then
 xzone_Lookup (a0.1, a0.2.1, a0.2.2.1, a0.2.2.2.1, w64 (a0.2.2.2.2.1 + 1), ()) a1 (fun r6 =>
 xzone_Lookup a0 a1 (fun r7 =>
 (lt (r6.1 == r7.1 && (r6.2.1 == r7.2.1 && (ByteArray.toList r6.2.2.1 == ByteArray.toList r7.2.2.1 && true))) fun v8 =>
 (if v8 then
 xzone_Same (a0.1, a0.2.1, a0.2.2.1, a0.2.2.2.1, w64 (a0.2.2.2.2.1 + 1), ()) a0 (fun r9 =>
 K !r9)
 else
 K false))))
 else
 K false))
 else
 K false))))))))))
def Xepactlaw19_ZoneVersions : Tepactlaw19_ZoneVersions := Yepactlaw19_ZoneVersions Xepactlaw19_small Xepactlaw16_Few Xzone_Right Xzone_Lookup Xzone_Same
def Jepactlaw19_ZoneVersions (X : Tepactlaw19_ZoneVersions) : Inst := mkI 6 pL77 .nil pL11 .nil X
def Iepactlaw19_ZoneVersions : Inst := Jepactlaw19_ZoneVersions Xepactlaw19_ZoneVersions
theorem Eepactlaw19_ZoneVersions (xepactlaw19_small : Tepactlaw19_small) (xepactlaw16_Few : Tepactlaw16_Few) (xzone_Right : Tzone_Right) (xzone_Lookup : Tzone_Lookup) (xzone_Same : Tzone_Same) : EqF Tryz.prog 62 gives Tryz.f6 [Jepactlaw19_small xepactlaw19_small, Jepactlaw16_Few xepactlaw16_Few, Jzone_Right xzone_Right, Jzone_Lookup xzone_Lookup, Jzone_Same xzone_Same] [] (Jepactlaw19_ZoneVersions (Yepactlaw19_ZoneVersions xepactlaw19_small xepactlaw16_Few xzone_Right xzone_Lookup xzone_Same)) := fun x y K => by kernel_rfl
theorem Iepactlaw19_ZoneVersions_ok : InstOk Tryz.prog G.1 Iepactlaw19_ZoneVersions := iok (gives := gives) [] (okCons Iepactlaw19_small_ok (okCons Iepactlaw16_Few_ok (okCons Izone_Right_ok (okCons Izone_Lookup_ok (okCons Izone_Same_ok okNil))))) 62 follows Tryz.func6 (by kernel_rfl) (fun x => by kernel_rfl) (Eepactlaw19_ZoneVersions Xepactlaw19_small Xepactlaw16_Few Xzone_Right Xzone_Lookup Xzone_Same)

end Go.Proofs.YtmbdcbfandebhaaGreatDoor
end
section
set_option linter.unusedVariables false
set_option linter.unusedSimpArgs false

end
section
set_option linter.unusedVariables false
set_option linter.unusedSimpArgs false
set_option linter.unusedVariables false
namespace Go.Proofs.YtmbdcbfandebhaaGreatDoor
open Go Go.Proofs.YtmbdcbfandebhaaGreatDoor.Eng
abbrev akZoneHolds0 : AK := (.st (.cons (.sl (.st (.cons (.int .i64) (.cons .bool (.cons .str .nil))))) (.cons (.sl (.st (.cons (.int .i64) (.cons (.int .i64) .nil)))) (.cons (.sl (.st (.cons (.int .i64) (.cons (.int .i64) .nil)))) (.cons .str (.cons (.int .i64) .nil))))))
abbrev akZoneHolds1 : AK := (.int .i64)
/-- The law over plain data. -/
def PureZoneHolds : Prop := ∀ (a0 : akZoneHolds0.T) (h0 : akZoneHolds0.good a0) (a1 : akZoneHolds1.T) (h1 : akZoneHolds1.good a1), Xepactlaw19_ZoneHolds (akZoneHolds0.DV a0) (akZoneHolds1.DV a1) (fun b => b = true)
end Go.Proofs.YtmbdcbfandebhaaGreatDoor
end
section
set_option linter.unusedVariables false
set_option linter.unusedSimpArgs false
namespace Go.Proofs.YtmbdcbfandebhaaGreatDoor.Pl
open Go
set_option linter.unusedVariables false
set_option linter.unusedSimpArgs false

def digsN : Nat → Nat → List UInt8
  | 0, _ => []
  | k + 1, u => if u < 10 then [UInt8.ofNat (48 + u)] else digsN k (u / 10) ++ [UInt8.ofNat (48 + u % 10)]
theorem digsN_eq : ∀ k u, u < 10 ^ (k + 1) → digsN (k + 1) u = Lib.decDigits u
  | 0, u, h => by rw [Lib.decDigits, digsN, if_pos (by simpa using h), dif_pos (by simpa using h)]
  | k + 1, u, h => by
    rw [Lib.decDigits, digsN]
    by_cases h1 : u < 10
    · rw [if_pos h1, dif_pos h1]
    · rw [if_neg h1, dif_neg h1, digsN_eq k (u / 10) (by rw [Nat.pow_succ] at h; omega)]
def itoaK (n : Int) : List UInt8 := if n < 0 then 45 :: digsN 20 n.natAbs else digsN 20 n.toNat
theorem itoaK_eq (n : Int) (h0 : -9223372036854775808 ≤ n) (h1 : n ≤ 9223372036854775807) : itoaK n = Lib.itoa n := by
  unfold itoaK Lib.itoa
  split
  · rw [digsN_eq 19 _ (by omega)]
  · rw [digsN_eq 19 _ (by omega)]
def isDig (c : UInt8) : Bool := 48 ≤ c.toNat && c.toNat ≤ 57
theorem takeWhile_len_of {p : UInt8 → Bool} : ∀ (l : List UInt8) (k : Nat), k ≤ l.length → (∀ j (h : j < l.length), j < k → p l[j] = true) → (∀ h : k < l.length, p l[k] = false) → (l.takeWhile p).length = k
  | [], k, hk, _, _ => by simp at hk; simp [hk]
  | a :: l, 0, _, _, h => by have := h (by simp); simp at this; simp [List.takeWhile_cons, this]
  | a :: l, k + 1, hk, h1, h2 => by
    have ha : p a = true := h1 0 (by simp) (by omega)
    rw [List.takeWhile_cons, if_pos ha, List.length_cons, takeWhile_len_of l k (by simpa using hk) (fun j hj hjk => by have := h1 (j + 1) (by simpa using hj) (by omega); simpa using this) (fun hk' => by have := h2 (by simpa using hk'); simpa using this)]
theorem decode_dig (s : ByteArray) (pos : Nat) (h : pos < s.size) : ((48 ≤ (Utf8.decode s pos).1 ∧ (Utf8.decode s pos).1 ≤ 57) → isDig s[pos] = true ∧ (Utf8.decode s pos).2 = 1) ∧ (¬ (48 ≤ (Utf8.decode s pos).1 ∧ (Utf8.decode s pos).1 ≤ 57) → isDig s[pos] = false) := by
  by_cases ha : (s[pos]'h).toNat < 128
  · rw [decode_ascii s pos h ha]
    unfold isDig
    refine ⟨fun hh => ⟨by simp; omega, rfl⟩, fun hh => ?_⟩
    simp
    omega
  · have hd := (decode_high s pos h (by omega)).1
    unfold isDig
    refine ⟨fun hh => by omega, fun _ => by simp; omega⟩

/-- A text out of a list. -/
abbrev S (l : List UInt8) : ByteArray := ⟨l.toArray⟩
theorem of_S (s : ByteArray) : s = S s.data.toList := by cases s; simp [S]
theorem S_size (l : List UInt8) : (S l).size = l.length := by simp [S, ByteArray.size]
theorem S_sizeI (l : List UInt8) : ((S l).size : Int) = (l.length : Int) := by rw [S_size]
theorem S_append (a b : List UInt8) : S a ++ S b = S (a ++ b) := ByteArray.mk_append_mk a b
theorem S_toList (l : List UInt8) : (S l).toList = l := ByteArray.toList_mk l
theorem S_data (l : List UInt8) : (S l).data.toList = l := by simp [S]
theorem S_inj {a b : List UInt8} (h : S a = S b) : a = b := by have := congrArg (fun s => s.data.toList) h; simpa [S] using this
theorem S_extract (l : List UInt8) (a b : Nat) : (S l).extract a b = S ((l.drop a).take (b - a)) := by rw [Lib.extract_eq, S_data]
theorem S_drop (l : List UInt8) (a : Nat) : (S l).extract a (S l).size = S (l.drop a) := by
  rw [S_extract, S_size, List.take_of_length_le (by simp)]
theorem S_take (l : List UInt8) (b : Nat) : (S l).extract 0 b = S (l.take b) := by rw [S_extract]; simp
theorem u8_lt (c : UInt8) : c.toNat < 256 := c.toNat_lt
theorem u8_eq {a b : UInt8} (h : a.toNat = b.toNat) : a = b := UInt8.toNat_inj.1 h

/-- How many digits a list begins with. -/
def dl (l : List UInt8) : Nat := (l.takeWhile isDig).length
theorem dl_le (l : List UInt8) : dl l ≤ l.length := by unfold dl; exact (List.takeWhile_sublist _).length_le
theorem dl_cons (c : UInt8) (l : List UInt8) : dl (c :: l) = if isDig c = true then dl l + 1 else 0 := by
  unfold dl; rw [List.takeWhile_cons]; split <;> simp
theorem dl_nil : dl [] = 0 := rfl
/-- The number of a row of digits. -/
def valL (l : List UInt8) : Nat := l.foldl (fun n c => 10 * n + (c.toNat - 48)) 0
theorem decFrom_val : ∀ (l : List UInt8) (acc : Nat), (∀ c ∈ l, isDig c = true) → Lib.decFrom acc l = some (l.foldl (fun n c => 10 * n + (c.toNat - 48)) acc)
  | [], acc, _ => rfl
  | c :: l, acc, h => by
    have hc : isDig c = true := h c (by simp)
    unfold isDig at hc
    simp at hc
    unfold Lib.decFrom Lib.digitVal
    rw [if_pos hc]
    simp only []
    rw [decFrom_val l _ (fun c' hc' => h c' (by simp [hc'])), List.foldl_cons, Nat.mul_comm]
theorem atoi_val (l : List UInt8) (hne : l ≠ []) (h : ∀ c ∈ l, isDig c = true) : Lib.atoi l = some (valL l : Int) := by
  cases l with
  | nil => exact absurd rfl hne
  | cons c r =>
    have hc : isDig c = true := h c (by simp)
    unfold isDig at hc
    simp at hc
    have h1 : (c == 45) = false := by rw [beq_eq_false_iff_ne]; rintro rfl; simp at hc
    have h2 : (c == 43) = false := by rw [beq_eq_false_iff_ne]; rintro rfl; simp at hc
    simp only [Lib.atoi, Lib.decNat, h1, h2, Bool.false_eq_true, if_false, List.isEmpty_cons]
    rw [decFrom_val _ _ h]
    rfl
theorem take_dl_dig (l : List UInt8) (k : Nat) (h : k ≤ dl l) : ∀ c ∈ l.take k, isDig c = true := by
  intro c hc
  have hs : l.take k = (l.takeWhile isDig).take k := by
    conv => lhs; rw [← List.takeWhile_append_dropWhile (p := isDig) (l := l)]
    rw [List.take_append_of_le_length h]
  rw [hs] at hc
  have hall : (l.takeWhile isDig).all isDig = true := List.all_takeWhile
  exact List.all_eq_true.1 hall c (List.mem_of_mem_take hc)

end Go.Proofs.YtmbdcbfandebhaaGreatDoor.Pl
end
