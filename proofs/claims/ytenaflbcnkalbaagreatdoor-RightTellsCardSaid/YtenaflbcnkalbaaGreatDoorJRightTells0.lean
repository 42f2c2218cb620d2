/- What the functions come to in plain data, with proofs, and what that answers. -/
import Derived.Test.YtenaflbcnkalbaaGreatDoorF3
import Derived.Shelf.Small.Wraps
import Derived.Shelf.Strconv.Atoi
import Derived.Shelf.Strconv.Itoa0
import Derived.Shelf.Strconv.Itoa1
import Derived.Shelf.LaysM
import Derived.Shelf.Strconv.Itoa2
import Derived.Shelf.Strconv.Itoa3
import Derived.Shelf.Strconv.AtoiErrFast
import Derived.Shelf.Strconv.ParseIntEmpty
import Derived.Shelf.Strconv.AtoiFail
import Derived.Shelf.Strconv.Clone
import Derived.Shelf.Strconv.SyntaxError
import Derived.Shelf.LaysC
import Derived.Shelf.Strconv.ToError
import Derived.Shelf.Strconv.Lower
import Derived.Shelf.Strconv.ParseUint10
import Derived.Shelf.Strconv.ParseUint10Empty
import Derived.Shelf.Strconv.ParseUint10Any
import Derived.Shelf.Strconv.ParseInt10
import Derived.Shelf.Strconv.AtoiLong
import Derived.Shelf.Strconv.AtoiInnerAll
import Derived.Shelf.Strconv.RangeError
import Derived.Shelf.Strconv.ToErrorRange
import Derived.Shelf.Strconv.AtoiAll
import Derived.Shelf.Strconv.ErrVarAll
import Derived.Shelf.Strings.Search1
import Derived.Shelf.Strings.Search2
import Derived.Shelf.Strings.Search3
import Derived.Shelf.Strings.Cut
import Derived.Shelf.Strings.Shaped
import Derived.Shelf.Strings.Prefix
import Derived.Test.YtenaflbcnkalbaaGreatDoorProg
import Derived.Lib.AppendIntMem
import Derived.Lib.ItoaMem
import Derived.Lib.ItoaNum
import Derived.Lib.AtoiErrMem
import Derived.Lib.LaidTab
section
set_option linter.unusedVariables false
set_option linter.unusedSimpArgs false
namespace Go.Proofs
open Go.Shelf
def Tryz.lays172_ren : Go.Shelf.Ren := ⟨fun | 172 => 263 | 244 => 284 | 245 => 285 | 247 => 299 | 279 => 300 | 280 => 301 | 281 => 302 | 282 => 303 | 287 => 311 | 316 => 312 | 171 => 205 | 205 => 313 | 321 => 316 | 322 => 317 | 243 => 248 | 246 => 276 | 283 => 290 | 284 => 291 | 285 => 292 | 286 => 293 | 129 => 307 | 317 => 306 | 318 => 308 | 319 => 309 | 320 => 310 | 337 => 314 | 338 => 315 | n => n, fun | 9 => 9 | 3 => 3 | 75 => 230 | 76 => 231 | 4 => 4 | 5 => 5 | 167 => 253 | 37 => 59 | 0 => 0 | 85 => 254 | 2 => 2 | 168 => 256 | 53 => 238 | 175 => 263 | 46 => 201 | 210 => 267 | 127 => 271 | 145 => 274 | 143 => 272 | 21 => 21 | 171 => 244 | 173 => 247 | 212 => 260 | 51 => 239 | 20 => 20 | 213 => 261 | 232 => 275 | 233 => 276 | 80 => 277 | n => n, fun | 15 => 2 | 16 => 3 | 17 => 1 | 18 => 4 | 19 => 5 | n => n⟩
theorem Tryz.lays172 : Go.Proofs.Lays.n172 Tryz.prog Tryz.lays172_ren := {
 mixed := by kernel_rfl
 f129 := Tryz.func307.trans (congrArg some (by kernel_rfl))
 f171 := Tryz.func205.trans (congrArg some (by kernel_rfl))
 f172 := Tryz.func263.trans (congrArg some (by kernel_rfl))
 f205 := Tryz.func313.trans (congrArg some (by kernel_rfl))
 f243 := Tryz.func248.trans (congrArg some (by kernel_rfl))
 f244 := Tryz.func284.trans (congrArg some (by kernel_rfl))
 f245 := Tryz.func285.trans (congrArg some (by kernel_rfl))
 f246 := Tryz.func276.trans (congrArg some (by kernel_rfl))
 f247 := Tryz.func299.trans (congrArg some (by kernel_rfl))
 f279 := Tryz.func300.trans (congrArg some (by kernel_rfl))
 f280 := Tryz.func301.trans (congrArg some (by kernel_rfl))
 f281 := Tryz.func302.trans (congrArg some (by kernel_rfl))
 f282 := Tryz.func303.trans (congrArg some (by kernel_rfl))
 f283 := Tryz.func290.trans (congrArg some (by kernel_rfl))
 f284 := Tryz.func291.trans (congrArg some (by kernel_rfl))
 f285 := Tryz.func292.trans (congrArg some (by kernel_rfl))
 f286 := Tryz.func293.trans (congrArg some (by kernel_rfl))
 f287 := Tryz.func311.trans (congrArg some (by kernel_rfl))
 f316 := Tryz.func312.trans (congrArg some (by kernel_rfl))
 f317 := Tryz.func306.trans (congrArg some (by kernel_rfl))
 f318 := Tryz.func308.trans (congrArg some (by kernel_rfl))
 f319 := Tryz.func309.trans (congrArg some (by kernel_rfl))
 f320 := Tryz.func310.trans (congrArg some (by kernel_rfl))
 f321 := Tryz.func316.trans (congrArg some (by kernel_rfl))
 f322 := Tryz.func317.trans (congrArg some (by kernel_rfl))
 f337 := Tryz.func314.trans (congrArg some (by kernel_rfl))
 f338 := Tryz.func315.trans (congrArg some (by kernel_rfl))
 t0 := Tryz.underlying0
 a0 := Tryz.isAgg0
 z0 := Tryz.sizeOf0
 v0 := Tryz.zeroValue0
 t2 := Tryz.underlying2
 a2 := Tryz.isAgg2
 z2 := Tryz.sizeOf2
 v2 := Tryz.zeroValue2
 t3 := Tryz.underlying3
 a3 := Tryz.isAgg3
 z3 := Tryz.sizeOf3
 v3 := Tryz.zeroValue3
 t4 := Tryz.underlying4
 a4 := Tryz.isAgg4
 z4 := Tryz.sizeOf4
 v4 := Tryz.zeroValue4
 t5 := Tryz.underlying5
 a5 := Tryz.isAgg5
 z5 := Tryz.sizeOf5
 v5 := Tryz.zeroValue5
 t9 := Tryz.underlying9
 a9 := Tryz.isAgg9
 z9 := Tryz.sizeOf9
 v9 := Tryz.zeroValue9
 t20 := Tryz.underlying20
 a20 := Tryz.isAgg20
 z20 := Tryz.sizeOf20
 v20 := Tryz.zeroValue20
 t21 := Tryz.underlying21
 a21 := Tryz.isAgg21
 z21 := Tryz.sizeOf21
 v21 := Tryz.zeroValue21
 t37 := Tryz.underlying59
 a37 := Tryz.isAgg59
 z37 := Tryz.sizeOf59
 v37 := Tryz.zeroValue59
 t46 := Tryz.underlying201
 a46 := Tryz.isAgg201
 z46 := Tryz.sizeOf201
 v46 := Tryz.zeroValue201
 t51 := Tryz.underlying239
 a51 := Tryz.isAgg239
 z51 := Tryz.sizeOf239
 v51 := Tryz.zeroValue239
 t53 := Tryz.underlying238
 a53 := Tryz.isAgg238
 z53 := Tryz.sizeOf238
 v53 := Tryz.zeroValue238
 t75 := Tryz.underlying230
 a75 := Tryz.isAgg230
 z75 := Tryz.sizeOf230
 v75 := Tryz.zeroValue230
 t76 := Tryz.underlying231
 a76 := Tryz.isAgg231
 z76 := Tryz.sizeOf231
 v76 := Tryz.zeroValue231
 t85 := Tryz.underlying254
 a85 := Tryz.isAgg254
 z85 := Tryz.sizeOf254
 v85 := Tryz.zeroValue254
 t127 := Tryz.underlying271
 a127 := Tryz.isAgg271
 z127 := Tryz.sizeOf271
 v127 := Tryz.zeroValue271
 t143 := Tryz.underlying272
 a143 := Tryz.isAgg272
 z143 := Tryz.sizeOf272
 v143 := Tryz.zeroValue272
 t145 := Tryz.underlying274
 a145 := Tryz.isAgg274
 z145 := Tryz.sizeOf274
 v145 := Tryz.zeroValue274
 t167 := Tryz.underlying253
 a167 := Tryz.isAgg253
 z167 := Tryz.sizeOf253
 v167 := Tryz.zeroValue253
 t168 := Tryz.underlying256
 a168 := Tryz.isAgg256
 z168 := Tryz.sizeOf256
 v168 := Tryz.zeroValue256
 t171 := Tryz.underlying244
 a171 := Tryz.isAgg244
 z171 := Tryz.sizeOf244
 v171 := Tryz.zeroValue244
 t173 := Tryz.underlying247
 a173 := Tryz.isAgg247
 z173 := Tryz.sizeOf247
 v173 := Tryz.zeroValue247
 t175 := Tryz.underlying263
 a175 := Tryz.isAgg263
 z175 := Tryz.sizeOf263
 v175 := Tryz.zeroValue263
 t210 := Tryz.underlying267
 a210 := Tryz.isAgg267
 z210 := Tryz.sizeOf267
 v210 := Tryz.zeroValue267
 t212 := Tryz.underlying260
 a212 := Tryz.isAgg260
 z212 := Tryz.sizeOf260
 v212 := Tryz.zeroValue260
 t213 := Tryz.underlying261
 a213 := Tryz.isAgg261
 z213 := Tryz.sizeOf261
 t232 := Tryz.underlying275
 a232 := Tryz.isAgg275
 z232 := Tryz.sizeOf275
 v232 := Tryz.zeroValue275
 t233 := Tryz.underlying276
 a233 := Tryz.isAgg276
 z233 := Tryz.sizeOf276
 v233 := Tryz.zeroValue276
 g15 := by kernel_rfl
 g16 := by kernel_rfl
 g17 := by kernel_rfl
 g18 := by kernel_rfl
 g19 := by kernel_rfl }
open Go.RowKit in
theorem Tryz.strconv_Atoi (s : ByteArray) (n : Int) (hl : s.size ≤ 18) (h : Lib.atoi s.data.toList = some n) (w : World) :
  Calls Tryz.prog 263 #[.string s] w fun e w' => e = .returned (.tuple #[.int .i64 n, .nilIface]) ∧ ∃ t, w' = Lib.bytesWorld w 5 t := Any.strconv_Atoi Tryz.lays172 s n hl h w
open Go.RowKit Go.Sort Go.Lib in
def Tryz.lays217_ren : Go.Shelf.Ren := ⟨fun | 217 => 277 | 266 => 294 | n => n, fun | 9 => 9 | 5 => 5 | 3 => 3 | n => n, fun | n => n⟩
theorem Tryz.lays217 : Go.Proofs.Lays.n217 Tryz.prog Tryz.lays217_ren := {
 mixed := by kernel_rfl
 f217 := Tryz.func277.trans (congrArg some (by kernel_rfl))
 f266 := Tryz.func294.trans (congrArg some (by kernel_rfl))
 t3 := Tryz.underlying3
 a3 := Tryz.isAgg3
 z3 := Tryz.sizeOf3
 v3 := Tryz.zeroValue3
 t5 := Tryz.underlying5
 a5 := Tryz.isAgg5
 z5 := Tryz.sizeOf5
 v5 := Tryz.zeroValue5
 t9 := Tryz.underlying9
 a9 := Tryz.isAgg9
 z9 := Tryz.sizeOf9
 v9 := Tryz.zeroValue9 }
open Go.RowKit Go.Lib in
theorem Tryz.stringslite_IndexByte (s : ByteArray) (c : Int) (w : World) :
  Calls Tryz.prog 277 #[.string s, .int .u8 c] w fun e w' => e = .returned (.int .i64 (Lib.indexByte s.data.toList c.toNat.toUInt8)) ∧ w' = w := Any.stringslite_IndexByte Tryz.lays217 s c w
end Go.Proofs
end
section
set_option linter.unusedVariables false
set_option linter.unusedSimpArgs false
namespace Go.Proofs.YtenaflbcnkalbaaGreatDoor
open Go Go.Proofs.YtenaflbcnkalbaaGreatDoor.Eng Go.RowKit
def gives : FuncId → Bool := fun _ => false
theorem follows : Tryz.prog.follows .mixedOrders = true := by kernel_rfl
/-- Objects of memory that stay as they are, and hold a table. -/
abbrev Gs := {l : List (Nat × Obj) // ∀ w : World, (∀ x ∈ l, w.heap[x.1]? = some x.2) → Lib.TabIs Tryz.prog w "internal/strconv.uint64pow10" .u64 Lib.pow10Tab}
variable {G : Gs}
abbrev Tatoi : Type := ByteArray → (Int → Value → Prop) → Prop
abbrev TindexByte : Type := ByteArray → Int → (Int → Prop) → Prop
def Xatoi (s : ByteArray) (K : Int → Value → Prop) : Prop := ∃ n, s.size ≤ 18 ∧ Lib.atoi s.data.toList = some n ∧ K n .nilIface
def Jatoi (X : ByteArray → (Int → Value → Prop) → Prop) : Inst := ⟨263, (.cons .str .nil), .nil, (.cons (.int .i64) (.cons .val .nil)), .nil, fun x y K => X x.1 (fun u0 u1 => K (u0, (u1, ())) ())⟩
def Iatoi : Inst := Jatoi Xatoi
theorem Iatoi_ok : InstOk Tryz.prog G.1 Iatoi := fun ⟨s, _⟩ y K ⟨n, h1, h2, h3⟩ =>
 (told (args := [.string s]) (rs := [.int .i64 n, .nilIface]) rfl fun w _ => (Tryz.strconv_Atoi s n h1 h2 w).mono fun e w' ⟨he, t, hw⟩ => ⟨he, by subst hw; exact Lib.bytesWorld_below _ _ _⟩).mono fun rs h' ⟨e1, e2⟩ => ⟨(n, (.nilIface, ())), (), e1, e2, h3⟩
def XindexByte (s : ByteArray) (c : Int) (K : Int → Prop) : Prop := K (Lib.indexByte s.data.toList c.toNat.toUInt8)
def JindexByte (X : ByteArray → Int → (Int → Prop) → Prop) : Inst := ⟨277, (.cons .str (.cons (.int .u8) .nil)), .nil, (.cons (.int .i64) .nil), .nil, fun x y K => X x.1 x.2.1 (fun u0 => K (u0, ()) ())⟩
def IindexByte : Inst := JindexByte XindexByte
theorem IindexByte_ok : InstOk Tryz.prog G.1 IindexByte := fun ⟨s, c, _⟩ y K h3 =>
 (told (args := [.string s, .int .u8 c]) (rs := [.int .i64 (Lib.indexByte s.data.toList c.toNat.toUInt8)]) rfl fun w _ => (Tryz.stringslite_IndexByte s c w).mono fun e w' ⟨he, hw⟩ => ⟨he, by subst hw; exact Below.refl _ _⟩).mono fun rs h' ⟨e1, e2⟩ => ⟨(_, ()), (), e1, e2, h3⟩
theorem gs_of {w : World} (h : Lib.TabIs Tryz.prog w "internal/strconv.uint64pow10" .u64 Lib.pow10Tab) : ∃ G : Gs, ∀ x ∈ G.1, w.heap[x.1]? = some x.2 := by
 unfold Lib.TabIs World.var? at h
 cases hg : Tryz.prog.globalNamed "internal/strconv.uint64pow10" with
 | none => rw [hg] at h; cases h
 | some g =>
  rw [hg] at h
  simp only [Option.bind_some] at h
  cases ho : w.heap[g]? with
  | none => rw [ho] at h; cases h
  | some o =>
   rw [ho] at h
   refine ⟨⟨[(g, o)], fun w' hw => ?_⟩, fun x hx => ?_⟩
   ·have := hw (g, o) (.head _)
    unfold Lib.TabIs World.var?
    rw [hg]
    simp only [Option.bind_some, this]
    exact h
   ·simp only [List.mem_singleton] at hx
    subst hx; exact ho
theorem globN : Tryz.prog.globalNamed "internal/strconv.uint64pow10" = some 1 := by kernel_rfl
end Go.Proofs.YtenaflbcnkalbaaGreatDoor
end
section
set_option linter.unusedVariables false
set_option linter.unusedSimpArgs false
namespace Go.Proofs.YtenaflbcnkalbaaGreatDoor
open Go Go.Proofs.YtenaflbcnkalbaaGreatDoor.Eng
set_option maxRecDepth 100000
set_option maxHeartbeats 4000000
variable {G : Gs}
abbrev pL0 : PL := (.cons (.int .i32) .nil)
abbrev pL1 : PL := (.cons .bool .nil)
abbrev Q2 : Type := ((Unit × Unit) × Bool × Int × Unit × Unit) × (ByteArray × Nat) × Unit
abbrev pT3 : PT := (.cons 1 (.fn (.func 202) .nil .nil) (.cons 2 .bool (.cons 6 (.int .i64) (.cons 10 (.it 224) .nil))))
abbrev pH4 : PH := (.cons 224 .iter .nil)
abbrev pL5 : PL := (.cons .str (.cons (.fn (.func 202) .nil .nil) (.cons .bool .nil)))
abbrev pL6 : PL := (.cons (.int .i64) .nil)
abbrev pL7 : PL := (.cons .str (.cons (.fn (.func 202) .nil .nil) .nil))
abbrev pL8 : PL := (.cons .str .nil)
abbrev Q9 : Type := (ByteArray × Unit × Bool × Unit × List Eng.V × Int × Int × Unit) × List (Go.Value × Eng.V) × List Eng.V × Unit
abbrev pT10 : PT := (.cons 2 .str (.cons 3 (.sla 816) (.cons 4 .bool (.cons 5 (.mp 224) (.cons 11 (.slN 1) (.cons 12 (.int .i64) (.cons 13 (.int .i64) .nil)))))))
abbrev pH11 : PH := (.cons 224 .mapI (.cons 816 (.arr 1 true false) .nil))
abbrev pL12 : PL := (.cons (.slN 1) .nil)
abbrev pL13 : PL := (.cons .str (.cons (.sla 0) (.cons .bool .nil)))
abbrev pH14 : PH := (.cons 0 (.arrB 1) .nil)
abbrev Q15 : Type := List Eng.V × List Eng.V × List Eng.V × ByteArray × Int × Unit
abbrev Q16 : Type := (ByteArray × Unit × Bool × Unit × List Eng.V × Int × Int × Unit) × List Eng.V × Unit
abbrev pT17 : PT := (.cons 2 .str (.cons 3 (.nl 0) (.cons 4 .bool (.cons 5 (.sla 480) (.cons 9 (.slN 3) (.cons 10 (.int .i64) (.cons 11 (.int .i64) .nil)))))))
abbrev pH18 : PH := (.cons 480 (.arr 1 true false) .nil)
abbrev pL19 : PL := (.cons (.agg (.cons (.slN 3) (.cons (.slN 2) (.cons (.slN 2) (.cons .str (.cons (.int .i64) .nil)))))) .nil)
abbrev pL20 : PL := (.cons (.int .i64) (.cons (.int .i64) (.cons (.int .i64) .nil)))
abbrev Q21 : Type := Int × Int × Int × Int × Int × Int × Int × Unit
abbrev pL22 : PL := (.cons (.agg (.cons (.int .i64) (.cons (.int .i64) (.cons (.int .i64) (.cons (.int .i64) (.cons (.int .i64) (.cons (.int .i64) (.cons (.int .i64) .nil)))))))) .nil)
abbrev pL23 : PL := (.cons (.agg (.cons (.int .i64) (.cons (.int .i64) (.cons (.int .i64) (.cons (.int .i64) (.cons (.int .i64) (.cons (.int .i64) (.cons (.int .i64) .nil)))))))) (.cons .bool .nil))
abbrev pL24 : PL := (.cons (.int .i64) (.cons (.int .i64) .nil))
abbrev pL25 : PL := (.cons (.int .i64) (.cons .bool .nil))
abbrev Q26 : Type := (List Eng.V × Int × Int × Unit × List Eng.V × Int × Int × Unit) × (Int × Int × Unit) × Unit
abbrev pT27 : PT := (.cons 0 (.slN 2) (.cons 2 (.int .i64) (.cons 3 (.int .i64) (.cons 4 (.ptr 128 0) (.cons 12 (.slN 2) (.cons 13 (.int .i64) (.cons 14 (.int .i64) .nil)))))))
abbrev pH28 : PH := (.cons 128 (.cells [.int .i64, .int .i64] (.cons (.int .i64) (.cons (.int .i64) .nil))) .nil)
abbrev pL29 : PL := (.cons (.slN 2) .nil)
abbrev pL30 : PL := (.cons (.sla 0) .nil)
abbrev pH31 : PH := (.cons 0 (.arrB 2) .nil)
abbrev Q32 : Type := Int × Bool × ByteArray × Unit
abbrev pL33 : PL := (.cons (.int .i64) (.cons (.agg (.cons (.int .i64) (.cons .bool (.cons .str .nil)))) .nil))
abbrev Q34 : Type := ((Unit × Unit) × Bool × List Eng.V × Int × Int × Unit) × Unit
abbrev pT35 : PT := (.cons 1 (.fn (.func 102) .nil .nil) (.cons 4 .bool (.cons 7 (.slN 3) (.cons 8 (.int .i64) (.cons 9 (.int .i64) .nil)))))
abbrev pL36 : PL := (.cons (.slN 3) (.cons (.fn (.func 102) .nil .nil) .nil))
abbrev Q37 : Type := Int × Int × Unit
abbrev pL38 : PL := (.cons (.int .i64) (.cons (.agg (.cons (.int .i64) (.cons (.int .i64) .nil))) (.cons (.ptr 0 0) .nil)))
abbrev pH39 : PH := (.cons 0 (.cells [.sl 3, .sl 2, .sl 2, .str, .int .i64] (.cons (.slN 3) (.cons (.slN 2) (.cons (.slN 2) (.cons .str (.cons (.int .i64) .nil)))))) .nil)
abbrev pH40 : PH := (.cons 0 (.cells [.sl 3, .sl 2, .sl 2, .str, .int .i64] (.cons (.sla 1) (.cons (.sla 2) (.cons (.sla 3) (.cons .str (.cons (.int .i64) .nil)))))) (.cons 1 (.arrB 3) (.cons 2 (.arrB 2) (.cons 3 (.arrB 2) .nil))))
abbrev Q41 : Type := ((Unit × Unit × Unit) × Bool × List Eng.V × Int × Int × Unit) × (List Eng.V × List Eng.V × List Eng.V × ByteArray × Int × Unit) × Unit
abbrev pT42 : PT := (.cons 1 (.fn (.func 104) .nil (.cons (.ptr 0 0) .nil)) (.cons 4 .bool (.cons 7 (.slN 2) (.cons 8 (.int .i64) (.cons 9 (.int .i64) .nil)))))
abbrev pL43 : PL := (.cons (.slN 2) (.cons (.fn (.func 104) .nil (.cons (.ptr 0 0) .nil)) .nil))
abbrev pL44 : PL := (.cons .str (.cons .str .nil))
abbrev pL45 : PL := (.cons .str (.cons .bool .nil))
abbrev pL46 : PL := (.cons .str (.cons .str (.cons .bool .nil)))
abbrev pT47 : PT := (.cons 1 (.fn (.func 259) .nil .nil) (.cons 2 .bool (.cons 6 (.int .i64) (.cons 10 (.it 224) .nil))))
abbrev pL48 : PL := (.cons .str (.cons (.fn (.func 259) .nil .nil) (.cons .bool .nil)))
abbrev pL49 : PL := (.cons .str (.cons (.fn (.func 259) .nil .nil) .nil))
abbrev pL50 : PL := (.cons (.ptr 0 0) .nil)
abbrev pH51 : PH := (.cons 0 (.cells [.str, .int .i64, .bool, .str, .int .i64, .bool, .str, .bool, .int .i64, .int .i64, .int .i64, .int .i64, .int .i64, .int .i64, .int .i64, .int .i64, .int .i64, .int .i64] (.cons .str (.cons (.int .i64) (.cons .bool (.cons .str (.cons (.int .i64) (.cons .bool (.cons .str (.cons .bool (.cons (.int .i64) (.cons (.int .i64) (.cons (.int .i64) (.cons (.int .i64) (.cons (.int .i64) (.cons (.int .i64) (.cons (.int .i64) (.cons (.int .i64) (.cons (.int .i64) (.cons (.int .i64) .nil))))))))))))))))))) .nil)
abbrev Q52 : Type := (ByteArray × Int × Unit × Unit) × (ByteArray × Nat) × Unit
abbrev pT53 : PT := (.cons 0 .str (.cons 2 (.int .i64) (.cons 6 (.it 160) .nil)))
abbrev pH54 : PH := (.cons 160 .iter .nil)
abbrev pL55 : PL := (.cons (.int .i64) (.cons .str (.cons .bool .nil)))
abbrev pL56 : PL := (.cons (.agg (.cons (.int .i64) (.cons .bool (.cons .str .nil)))) (.cons .bool .nil))
abbrev Q57 : Type := Int × Int × Int × Int × Int × Unit
abbrev pL58 : PL := (.cons (.agg (.cons (.int .i64) (.cons (.int .i64) (.cons (.int .i64) (.cons (.int .i64) (.cons (.int .i64) .nil)))))) .nil)
abbrev Q59 : Type := Int × Bool × ByteArray × Int × Bool × ByteArray × Bool × Int × Int × Int × Int × Int × Int × Int × Int × Int × Int × Unit
abbrev pL60 : PL := (.cons (.agg (.cons (.int .i64) (.cons .bool (.cons .str (.cons (.int .i64) (.cons .bool (.cons .str (.cons .bool (.cons (.int .i64) (.cons (.int .i64) (.cons (.int .i64) (.cons (.int .i64) (.cons (.int .i64) (.cons (.int .i64) (.cons (.int .i64) (.cons (.int .i64) (.cons (.int .i64) (.cons (.int .i64) .nil)))))))))))))))))) .nil)
abbrev pL61 : PL := (.cons .str (.cons (.int .i64) .nil))
abbrev pL62 : PL := (.cons (.agg (.cons (.int .i64) (.cons (.int .i64) (.cons (.int .i64) (.cons (.int .i64) (.cons (.int .i64) .nil)))))) (.cons .str (.cons .bool .nil)))
abbrev pL63 : PL := (.cons (.ptr 0 0) (.cons (.ptr 0 8) .nil))
abbrev pL64 : PL := (.cons (.ptr 0 0) (.cons (.ptr 0 13) .nil))
abbrev pL65 : PL := (.cons (.agg (.cons (.int .i64) (.cons .bool (.cons .str (.cons (.int .i64) (.cons .bool (.cons .str (.cons .bool (.cons (.int .i64) (.cons (.int .i64) (.cons (.int .i64) (.cons (.int .i64) (.cons (.int .i64) (.cons (.int .i64) (.cons (.int .i64) (.cons (.int .i64) (.cons (.int .i64) (.cons (.int .i64) .nil)))))))))))))))))) (.cons .bool .nil))
abbrev pL66 : PL := (.cons (.int .i64) (.cons (.int .i64) (.cons .bool .nil)))
abbrev pL67 : PL := (.cons (.int .i64) (.cons (.int .i64) (.cons (.int .i64) (.cons .bool .nil))))
abbrev Q68 : Type := Int × Int × Bool × Unit
abbrev pL69 : PL := (.cons (.int .i64) (.cons (.agg (.cons (.int .i64) (.cons (.int .i64) (.cons .bool .nil)))) (.cons (.int .i64) .nil)))
abbrev Q70 : Type := List Eng.V × Bool × Int × Unit
abbrev Q71 : Type := (Unit × Int × Int × Int × List Eng.V × Int × Int × Unit) × (List Eng.V × Bool × Int × Unit) × Unit
abbrev pT72 : PT := (.cons 1 (.ptr 80 0) (.cons 2 (.int .i64) (.cons 3 (.int .i64) (.cons 4 (.int .i64) (.cons 11 (.slN 3) (.cons 12 (.int .i64) (.cons 13 (.int .i64) .nil)))))))
abbrev pH73 : PH := (.cons 80 (.cells [.sl 3, .bool, .int .i64] (.cons (.slN 3) (.cons .bool (.cons (.int .i64) .nil)))) .nil)
abbrev pL74 : PL := (.cons (.agg (.cons (.slN 3) (.cons .bool (.cons (.int .i64) .nil)))) .nil)
abbrev pL75 : PL := (.cons (.int .i64) (.cons (.ptr 0 0) (.cons (.ptr 1 0) .nil)))
abbrev pH76 : PH := (.cons 0 (.cells [.sl 3, .sl 2, .sl 2, .str, .int .i64] (.cons (.slN 3) (.cons (.slN 2) (.cons (.slN 2) (.cons .str (.cons (.int .i64) .nil)))))) (.cons 1 (.cells [.int .i64] (.cons (.int .i64) .nil)) .nil))
abbrev pH77 : PH := (.cons 0 (.cells [.sl 3, .sl 2, .sl 2, .str, .int .i64] (.cons (.sla 2) (.cons (.sla 3) (.cons (.sla 4) (.cons .str (.cons (.int .i64) .nil)))))) (.cons 1 (.cells [.int .i64] (.cons (.int .i64) .nil)) (.cons 2 (.arrB 3) (.cons 3 (.arrB 2) (.cons 4 (.arrB 2) .nil)))))
abbrev Q78 : Type := ((Unit × Unit × Unit × Unit) × Int × Int × Int × Unit) × (List Eng.V × List Eng.V × List Eng.V × ByteArray × Int × Unit) × (Int × Unit) × Unit
abbrev pT79 : PT := (.cons 1 (.fn (.func 157) .nil (.cons (.ptr 0 0) (.cons (.ptr 1 0) .nil))) (.cons 4 (.int .i64) (.cons 5 (.int .i64) (.cons 6 (.int .i64) .nil))))
abbrev pL80 : PL := (.cons (.int .i64) (.cons (.fn (.func 157) .nil (.cons (.ptr 0 0) (.cons (.ptr 1 0) .nil))) .nil))
abbrev pL81 : PL := (.cons (.agg (.cons (.slN 3) (.cons (.slN 2) (.cons (.slN 2) (.cons .str (.cons (.int .i64) .nil)))))) (.cons (.int .i64) .nil))
abbrev pH82 : PH := (.cons 0 (.cells [.sl 2] (.cons (.sla 2) .nil)) (.cons 1 (.cells [.int .i64] (.cons (.int .i64) .nil)) (.cons 2 (.arrB 2) .nil)))
abbrev pH83 : PH := (.cons 0 (.cells [.sl 2] (.cons (.slN 2) .nil)) (.cons 1 (.cells [.int .i64] (.cons (.int .i64) .nil)) .nil))
abbrev Q84 : Type := ((Unit × Unit × Unit × Unit) × Int × Int × Int × Unit) × (List Eng.V × Unit) × (Int × Unit) × (List Eng.V × Bool × Bool) × Unit
abbrev pT85 : PT := (.cons 1 (.fn (.func 167) .nil (.cons (.ptr 0 0) (.cons (.ptr 1 0) .nil))) (.cons 4 (.int .i64) (.cons 5 (.int .i64) (.cons 6 (.int .i64) .nil))))
abbrev pH86 : PH := (.cons 0 (.cells [.sl 2] (.cons (.slN 2) .nil)) (.cons 1 (.cells [.int .i64] (.cons (.int .i64) .nil)) (.cons 2 (.arrB 2) .nil)))
abbrev pL87 : PL := (.cons (.int .i64) (.cons (.fn (.func 167) .nil (.cons (.ptr 0 0) (.cons (.ptr 1 0) .nil))) .nil))
abbrev pL88 : PL := (.cons (.slN 2) (.cons (.int .i64) .nil))
abbrev pL89 : PL := (.cons (.agg (.cons (.int .i64) (.cons (.int .i64) (.cons (.int .i64) (.cons (.int .i64) (.cons (.int .i64) .nil)))))) (.cons (.int .i64) .nil))
abbrev pL90 : PL := (.cons (.agg (.cons (.int .i64) (.cons .bool (.cons .str (.cons (.int .i64) (.cons .bool (.cons .str (.cons .bool (.cons (.int .i64) (.cons (.int .i64) (.cons (.int .i64) (.cons (.int .i64) (.cons (.int .i64) (.cons (.int .i64) (.cons (.int .i64) (.cons (.int .i64) (.cons (.int .i64) (.cons (.int .i64) .nil)))))))))))))))))) (.cons (.int .i64) .nil))
abbrev pL91 : PL := (.cons (.agg (.cons (.int .i64) (.cons .bool (.cons .str .nil)))) .nil)
abbrev pL92 : PL := (.cons (.agg (.cons (.slN 3) (.cons (.slN 2) (.cons (.slN 2) (.cons .str (.cons (.int .i64) .nil)))))) (.cons (.agg (.cons (.int .i64) (.cons (.int .i64) (.cons .bool .nil)))) .nil))
abbrev Q93 : Type := (Unit × Unit × Unit × Int × Unit × Int × List Eng.V × Int × Int × Unit) × (List Eng.V × List Eng.V × List Eng.V × ByteArray × Int × Unit) × (List Eng.V × Bool × Int × Unit) × List Eng.V × Unit
abbrev pT94 : PT := (.cons 2 (.ptr 96 0) (.cons 3 (.ptr 112 0) (.cons 4 (.nl 0) (.cons 5 (.int .i64) (.cons 6 (.sla 1024) (.cons 7 (.int .i64) (.cons 14 (.slN 3) (.cons 15 (.int .i64) (.cons 16 (.int .i64) .nil)))))))))
abbrev pH95 : PH := (.cons 96 (.cells [.sl 3, .sl 2, .sl 2, .str, .int .i64] (.cons (.slN 3) (.cons (.slN 2) (.cons (.slN 2) (.cons .str (.cons (.int .i64) .nil)))))) (.cons 112 (.cells [.sl 3, .bool, .int .i64] (.cons (.slN 3) (.cons .bool (.cons (.int .i64) .nil)))) (.cons 1024 (.arr 2 true false) .nil)))
abbrev pL96 : PL := (.cons (.agg (.cons (.slN 3) (.cons (.slN 2) (.cons (.slN 2) (.cons .str (.cons (.int .i64) .nil)))))) (.cons (.agg (.cons (.slN 3) (.cons .bool (.cons (.int .i64) .nil)))) .nil))
abbrev pL97 : PL := (.cons (.sla 0) (.cons (.int .i64) .nil))
abbrev pL98 : PL := (.cons (.slN 3) .nil)
abbrev pH99 : PH := (.cons 0 (.arrB 3) .nil)
abbrev Q100 : Type := Unit × Unit × Unit × ByteArray × Int × Unit
abbrev pL101 : PL := (.cons (.agg (.cons (.sla 0) (.cons (.sla 1) (.cons (.sla 2) (.cons .str (.cons (.int .i64) .nil)))))) .nil)
abbrev pH102 : PH := (.cons 0 (.arrB 3) (.cons 1 (.arrB 2) (.cons 2 (.arrB 2) .nil)))
abbrev Q103 : Type := (Int × Unit × Int × Bool × Int × List Eng.V × Int × Int × Unit) × (List Eng.V × List Eng.V × List Eng.V × ByteArray × Int × Unit) × Unit
abbrev pT104 : PT := (.cons 2 (.int .i64) (.cons 3 (.ptr 112 0) (.cons 6 (.int .i64) (.cons 7 .bool (.cons 8 (.int .i64) (.cons 12 (.slN 3) (.cons 13 (.int .i64) (.cons 14 (.int .i64) .nil))))))))
abbrev pH105 : PH := (.cons 112 (.cells [.sl 3, .sl 2, .sl 2, .str, .int .i64] (.cons (.slN 3) (.cons (.slN 2) (.cons (.slN 2) (.cons .str (.cons (.int .i64) .nil)))))) .nil)
abbrev pL106 : PL := (.cons (.agg (.cons (.slN 3) (.cons (.slN 2) (.cons (.slN 2) (.cons .str (.cons (.int .i64) .nil)))))) (.cons (.agg (.cons (.slN 3) (.cons .bool (.cons (.int .i64) .nil)))) (.cons (.int .i64) .nil)))
abbrev pH107 : PH := (.cons 0 (.cells [.sl 3, .sl 2, .sl 2, .str, .int .i64] (.cons (.slN 3) (.cons (.slN 2) (.cons (.slN 2) (.cons .str (.cons (.int .i64) .nil)))))) (.cons 1 (.cells [.sl 3, .bool, .int .i64] (.cons (.slN 3) (.cons .bool (.cons (.int .i64) .nil)))) .nil))
abbrev pH108 : PH := (.cons 0 (.cells [.sl 3, .sl 2, .sl 2, .str, .int .i64] (.cons (.sla 2) (.cons (.sla 3) (.cons (.sla 4) (.cons .str (.cons (.int .i64) .nil)))))) (.cons 1 (.cells [.sl 3, .bool, .int .i64] (.cons (.sla 5) (.cons .bool (.cons (.int .i64) .nil)))) (.cons 2 (.arrB 3) (.cons 3 (.arrB 2) (.cons 4 (.arrB 2) (.cons 5 (.arrB 3) .nil))))))
abbrev Q109 : Type := ((Unit × Unit × Unit × Unit) × Unit × Unit × Int × Unit × Int × Int × Unit) × (List Eng.V × List Eng.V × List Eng.V × ByteArray × Int × Unit) × (List Eng.V × Bool × Int × Unit) × (Unit × Unit × Unit × ByteArray × Int × Unit) × (Unit × Unit × Unit × ByteArray × Int × Unit) × (List Eng.V × Bool × Bool) × (List Eng.V × Bool × Bool) × (List Eng.V × Bool × Bool) × Unit
abbrev Q110 : Type := (Unit × Unit × Int × Int × Int × Unit) × (List Eng.V × List Eng.V × List Eng.V × ByteArray × Int × Unit) × (List Eng.V × Bool × Int × Unit) × (Unit × Unit × Unit × ByteArray × Int × Unit) × (Unit × Unit × Unit × ByteArray × Int × Unit) × (List Eng.V × Bool × Bool) × (List Eng.V × Bool × Bool) × (List Eng.V × Bool × Bool) × Unit
abbrev pT111 : PT := (.cons 2 (.ptr 96 0) (.cons 4 (.ptr 128 0) (.cons 5 (.int .i64) (.cons 40 (.int .i64) (.cons 41 (.int .i64) .nil)))))
abbrev pH112 : PH := (.cons 0 (.cells [.sl 3, .sl 2, .sl 2, .str, .int .i64] (.cons (.slN 3) (.cons (.slN 2) (.cons (.slN 2) (.cons .str (.cons (.int .i64) .nil)))))) (.cons 1 (.cells [.sl 3, .bool, .int .i64] (.cons (.slN 3) (.cons .bool (.cons (.int .i64) .nil)))) (.cons 96 (.cells [.sl 3, .sl 2, .sl 2, .str, .int .i64] (.cons (.sla 256) (.cons (.sla 257) (.cons (.sla 258) (.cons .str (.cons (.int .i64) .nil)))))) (.cons 128 (.cells [.sl 3, .sl 2, .sl 2, .str, .int .i64] (.cons (.nl 3) (.cons (.nl 2) (.cons (.nl 2) (.cons .str (.cons (.int .i64) .nil)))))) (.cons 256 (.arrB 3) (.cons 257 (.arrB 2) (.cons 258 (.arrB 2) .nil)))))))
abbrev pT113 : PT := (.cons 1 (.fn (.func 81) .nil (.cons (.ptr 0 0) (.cons (.ptr 1 0) .nil))) (.cons 2 (.ptr 96 0) (.cons 4 (.ptr 128 0) (.cons 5 (.int .i64) (.cons 14 (.sla 257) (.cons 15 (.int .i64) (.cons 16 (.int .i64) .nil)))))))
abbrev pL114 : PL := (.cons (.agg (.cons (.slN 3) (.cons (.slN 2) (.cons (.slN 2) (.cons .str (.cons (.int .i64) .nil)))))) (.cons (.fn (.func 81) .nil (.cons (.ptr 0 0) (.cons (.ptr 1 0) .nil))) .nil))
abbrev pL115 : PL := (.cons (.agg (.cons (.sla 2) (.cons (.sla 3) (.cons (.sla 4) (.cons .str (.cons (.int .i64) .nil)))))) (.cons (.int .i64) .nil))
abbrev pH116 : PH := (.cons 0 (.cells [.sl 3, .sl 2, .sl 2, .str, .int .i64] (.cons (.sla 5) (.cons (.sla 6) (.cons (.sla 7) (.cons .str (.cons (.int .i64) .nil)))))) (.cons 1 (.cells [.sl 3, .bool, .int .i64] (.cons (.sla 8) (.cons .bool (.cons (.int .i64) .nil)))) (.cons 2 (.arrB 3) (.cons 3 (.arrB 2) (.cons 4 (.arrB 2) (.cons 5 (.arrB 3) (.cons 6 (.arrB 2) (.cons 7 (.arrB 2) (.cons 8 (.arrB 3) .nil)))))))))
abbrev pL117 : PL := (.cons (.agg (.cons (.sla 0) (.cons (.sla 1) (.cons (.sla 2) (.cons .str (.cons (.int .i64) .nil)))))) (.cons (.int .i64) .nil))
abbrev pL118 : PL := (.cons (.int .i64) (.cons (.ptr 0 0) .nil))
abbrev Q119 : Type := ((Unit × Unit × Unit) × Unit × Unit × Int × Unit × Int × Int × Unit) × (List Eng.V × List Eng.V × List Eng.V × ByteArray × Int × Unit) × (Unit × Unit × Unit × ByteArray × Int × Unit) × (Unit × Unit × Unit × ByteArray × Int × Unit) × (List Eng.V × Bool × Bool) × (List Eng.V × Bool × Bool) × (List Eng.V × Bool × Bool) × Unit
abbrev Q120 : Type := (Unit × Unit × Int × Int × Int × Unit) × (List Eng.V × List Eng.V × List Eng.V × ByteArray × Int × Unit) × (Unit × Unit × Unit × ByteArray × Int × Unit) × (Unit × Unit × Unit × ByteArray × Int × Unit) × (List Eng.V × Bool × Bool) × (List Eng.V × Bool × Bool) × (List Eng.V × Bool × Bool) × Unit
abbrev pH121 : PH := (.cons 0 (.cells [.sl 3, .sl 2, .sl 2, .str, .int .i64] (.cons (.slN 3) (.cons (.slN 2) (.cons (.slN 2) (.cons .str (.cons (.int .i64) .nil)))))) (.cons 96 (.cells [.sl 3, .sl 2, .sl 2, .str, .int .i64] (.cons (.sla 256) (.cons (.sla 257) (.cons (.sla 258) (.cons .str (.cons (.int .i64) .nil)))))) (.cons 128 (.cells [.sl 3, .sl 2, .sl 2, .str, .int .i64] (.cons (.nl 3) (.cons (.nl 2) (.cons (.nl 2) (.cons .str (.cons (.int .i64) .nil)))))) (.cons 256 (.arrB 3) (.cons 257 (.arrB 2) (.cons 258 (.arrB 2) .nil))))))
abbrev pT122 : PT := (.cons 1 (.fn (.func 85) .nil (.cons (.ptr 0 0) .nil)) (.cons 2 (.ptr 96 0) (.cons 4 (.ptr 128 0) (.cons 5 (.int .i64) (.cons 14 (.sla 257) (.cons 15 (.int .i64) (.cons 16 (.int .i64) .nil)))))))
abbrev pL123 : PL := (.cons (.agg (.cons (.slN 3) (.cons (.slN 2) (.cons (.slN 2) (.cons .str (.cons (.int .i64) .nil)))))) (.cons (.fn (.func 85) .nil (.cons (.ptr 0 0) .nil)) .nil))
abbrev pL124 : PL := (.cons (.agg (.cons (.sla 1) (.cons (.sla 2) (.cons (.sla 3) (.cons .str (.cons (.int .i64) .nil)))))) (.cons (.int .i64) .nil))
abbrev pH125 : PH := (.cons 0 (.cells [.sl 3, .sl 2, .sl 2, .str, .int .i64] (.cons (.sla 4) (.cons (.sla 5) (.cons (.sla 6) (.cons .str (.cons (.int .i64) .nil)))))) (.cons 1 (.arrB 3) (.cons 2 (.arrB 2) (.cons 3 (.arrB 2) (.cons 4 (.arrB 3) (.cons 5 (.arrB 2) (.cons 6 (.arrB 2) .nil)))))))
abbrev Q126 : Type := (List Eng.V × List Eng.V × Bool × Int × Unit) × Unit
abbrev pT127 : PT := (.cons 0 (.slN 2) (.cons 1 (.slN 2) (.cons 4 .bool (.cons 5 (.int .i64) .nil))))
abbrev pL128 : PL := (.cons (.slN 2) (.cons (.slN 2) .nil))
abbrev Q129 : Type := (Unit × Unit × Bool × Int × Unit) × (List Eng.V × List Eng.V × List Eng.V × ByteArray × Int × Unit) × (List Eng.V × List Eng.V × List Eng.V × ByteArray × Int × Unit) × Unit
abbrev pT130 : PT := (.cons 2 (.ptr 96 0) (.cons 3 (.ptr 112 0) (.cons 4 .bool (.cons 6 (.int .i64) .nil))))
abbrev pH131 : PH := (.cons 96 (.cells [.sl 3, .sl 2, .sl 2, .str, .int .i64] (.cons (.slN 3) (.cons (.slN 2) (.cons (.slN 2) (.cons .str (.cons (.int .i64) .nil)))))) (.cons 112 (.cells [.sl 3, .sl 2, .sl 2, .str, .int .i64] (.cons (.slN 3) (.cons (.slN 2) (.cons (.slN 2) (.cons .str (.cons (.int .i64) .nil)))))) .nil))
abbrev pT132 : PT := (.cons 2 (.ptr 96 0) (.cons 3 (.ptr 112 0) (.cons 4 .bool (.cons 5 (.int .i64) .nil))))
abbrev pL133 : PL := (.cons (.agg (.cons (.slN 3) (.cons (.slN 2) (.cons (.slN 2) (.cons .str (.cons (.int .i64) .nil)))))) (.cons (.agg (.cons (.slN 3) (.cons (.slN 2) (.cons (.slN 2) (.cons .str (.cons (.int .i64) .nil)))))) .nil))
abbrev Q134 : Type := (Unit × Bool × Int × Unit) × (List Eng.V × List Eng.V × List Eng.V × ByteArray × Int × Unit) × Unit
abbrev pT135 : PT := (.cons 1 (.ptr 80 0) (.cons 2 .bool (.cons 3 (.int .i64) .nil)))
abbrev pH136 : PH := (.cons 80 (.cells [.sl 3, .sl 2, .sl 2, .str, .int .i64] (.cons (.slN 3) (.cons (.slN 2) (.cons (.slN 2) (.cons .str (.cons (.int .i64) .nil)))))) .nil)
abbrev Tabbr_good : Type := Int → (Bool → Prop) → Prop
def Yabbr_good (a0 : Int) (K : Bool → Prop) : Prop :=
 (if decide (a0 ≥ 97) then
 (if decide (a0 ≤ 122) then
 K true
 else
 (if decide (a0 ≥ 65) then
 (if decide (a0 ≤ 90) then
 K true
 else
 (if decide (a0 ≥ 48) then
 (if decide (a0 ≤ 57) then
 K true
 else
 (if (a0 == 43) then
 K true
 else
 K (a0 == 45)))
 else
 (if (a0 == 43) then
 K true
 else
 K (a0 == 45))))
 else
 (if decide (a0 ≥ 48) then
 (if decide (a0 ≤ 57) then
 K true
 else
 (if (a0 == 43) then
 K true
 else
 K (a0 == 45)))
 else
 (if (a0 == 43) then
 K true
 else
 K (a0 == 45)))))
 else
 (if decide (a0 ≥ 65) then
 (if decide (a0 ≤ 90) then
 K true
 else
 (if decide (a0 ≥ 48) then
 (if decide (a0 ≤ 57) then
 K true
 else
 (if (a0 == 43) then
 K true
 else
 K (a0 == 45)))
 else
 (if (a0 == 43) then
 K true
 else
 K (a0 == 45))))
 else
 (if decide (a0 ≥ 48) then
 (if decide (a0 ≤ 57) then
 K true
 else
 (if (a0 == 43) then
 K true
 else
 K (a0 == 45)))
 else
 (if (a0 == 43) then
 K true
 else
 K (a0 == 45)))))
def Xabbr_good : Tabbr_good := Yabbr_good
def Jabbr_good (X : Tabbr_good) : Inst := mkI 203 pL0 .nil pL1 .nil X
def Iabbr_good : Inst := Jabbr_good Xabbr_good
theorem Eabbr_good : EqF Tryz.prog 33 gives Tryz.f203 [] [] (Jabbr_good (Yabbr_good)) := fun x y K => by kernel_rfl
theorem Iabbr_good_ok : InstOk Tryz.prog G.1 Iabbr_good := iok (gives := gives) [] okNil 33 follows Tryz.func203 (by kernel_rfl) (fun x => by kernel_rfl) (Eabbr_good)
abbrev Tabbr_Right_1 : Type := Int → (Bool → Prop) → Prop
def Yabbr_Right_1 (xabbr_good : Tabbr_good) (a0 : Int) (K : Bool → Prop) : Prop :=
 xabbr_good a0 (fun r1 =>
 K !r1)
def Xabbr_Right_1 : Tabbr_Right_1 := Yabbr_Right_1 Xabbr_good
def Jabbr_Right_1 (X : Tabbr_Right_1) : Inst := mkI 202 pL0 .nil pL1 .nil X
def Iabbr_Right_1 : Inst := Jabbr_Right_1 Xabbr_Right_1
theorem Eabbr_Right_1 (xabbr_good : Tabbr_good) : EqF Tryz.prog 6 gives Tryz.f202 [Jabbr_good xabbr_good] [] (Jabbr_Right_1 (Yabbr_Right_1 xabbr_good)) := fun x y K => by kernel_rfl
theorem Iabbr_Right_1_ok : InstOk Tryz.prog G.1 Iabbr_Right_1 := iok (gives := gives) [] (okCons Iabbr_good_ok okNil) 6 follows Tryz.func202 (by kernel_rfl) (fun x => by kernel_rfl) (Eabbr_Right_1 Xabbr_good)
abbrev Tstrings_indexFunc : Type := ByteArray → Bool → (Int → Prop) → Prop
def Lstrings_indexFunc_0 (xabbr_Right_1 : Tabbr_Right_1) (K : Int → Prop) : (Q2 → Prop) → Q2 → Prop := fun k2 x3 =>
 (if x3.2.1.2 < ByteArray.size x3.2.1.1 then
 xabbr_Right_1 (↑(Prod.fst (Go.Utf8.decode x3.2.1.1 x3.2.1.2)) : Int) (fun r4 =>
 (if (r4 == x3.1.2.1) then
 K (↑(x3.2.1.2) : Int)
 else
 k2 ((((), ()), x3.1.2.1, x3.1.2.2.1, (), ()), (x3.2.1.1, x3.2.1.2 + Prod.snd (Go.Utf8.decode x3.2.1.1 x3.2.1.2)), ())))
 else
 K (-1))
def Lstrings_indexFunc_0p : Lp := ⟨1094, [.trim 1094], pT3, pH4, 0⟩
def Ystrings_indexFunc (xabbr_Right_1 : Tabbr_Right_1) (a0 : ByteArray) (a1 : Bool) (K : Int → Prop) : Prop :=
 lp (Lstrings_indexFunc_0 xabbr_Right_1 K) ((((), ()), a1, 0, (), ()), (a0, (0 : Nat)), ())
def Xstrings_indexFunc : Tstrings_indexFunc := Ystrings_indexFunc Xabbr_Right_1
def Jstrings_indexFunc (X : Tstrings_indexFunc) : Inst := mkI 275 pL5 .nil pL6 .nil X
def Istrings_indexFunc : Inst := Jstrings_indexFunc Xstrings_indexFunc
theorem Estrings_indexFunc (xabbr_Right_1 : Tabbr_Right_1) : EqF Tryz.prog 21 gives Tryz.f275 [Jabbr_Right_1 xabbr_Right_1] [Lstrings_indexFunc_0p] (Jstrings_indexFunc (Ystrings_indexFunc xabbr_Right_1)) := fun x y K => by kernel_rfl
theorem Istrings_indexFunc_ok : InstOk Tryz.prog G.1 Istrings_indexFunc := iok (gives := gives) [Lstrings_indexFunc_0p] (okCons Iabbr_Right_1_ok okNil) 21 follows Tryz.func275 (by kernel_rfl) (fun x => by kernel_rfl) (Estrings_indexFunc Xabbr_Right_1)
abbrev Tstrings_IndexFunc : Type := ByteArray → (Int → Prop) → Prop
def Ystrings_IndexFunc (xstrings_indexFunc : Tstrings_indexFunc) (a0 : ByteArray) (K : Int → Prop) : Prop :=
 xstrings_indexFunc a0 true (fun r1 =>
 K r1)
def Xstrings_IndexFunc : Tstrings_IndexFunc := Ystrings_IndexFunc Xstrings_indexFunc
def Jstrings_IndexFunc (X : Tstrings_IndexFunc) : Inst := mkI 247 pL7 .nil pL6 .nil X
def Istrings_IndexFunc : Inst := Jstrings_IndexFunc Xstrings_IndexFunc
theorem Estrings_IndexFunc (xstrings_indexFunc : Tstrings_indexFunc) : EqF Tryz.prog 8 gives Tryz.f247 [Jstrings_indexFunc xstrings_indexFunc] [] (Jstrings_IndexFunc (Ystrings_IndexFunc xstrings_indexFunc)) := fun x y K => by kernel_rfl
theorem Istrings_IndexFunc_ok : InstOk Tryz.prog G.1 Istrings_IndexFunc := iok (gives := gives) [] (okCons Istrings_indexFunc_ok okNil) 8 follows Tryz.func247 (by kernel_rfl) (fun x => by kernel_rfl) (Estrings_IndexFunc Xstrings_indexFunc)
abbrev Tstrings_ContainsFunc : Type := ByteArray → (Bool → Prop) → Prop
def Ystrings_ContainsFunc (xstrings_IndexFunc : Tstrings_IndexFunc) (a0 : ByteArray) (K : Bool → Prop) : Prop :=
 xstrings_IndexFunc a0 (fun r1 =>
 K (decide (r1 ≥ 0)))
def Xstrings_ContainsFunc : Tstrings_ContainsFunc := Ystrings_ContainsFunc Xstrings_IndexFunc
def Jstrings_ContainsFunc (X : Tstrings_ContainsFunc) : Inst := mkI 204 pL7 .nil pL1 .nil X
def Istrings_ContainsFunc : Inst := Jstrings_ContainsFunc Xstrings_ContainsFunc
theorem Estrings_ContainsFunc (xstrings_IndexFunc : Tstrings_IndexFunc) : EqF Tryz.prog 9 gives Tryz.f204 [Jstrings_IndexFunc xstrings_IndexFunc] [] (Jstrings_ContainsFunc (Ystrings_ContainsFunc xstrings_IndexFunc)) := fun x y K => by kernel_rfl
theorem Istrings_ContainsFunc_ok : InstOk Tryz.prog G.1 Istrings_ContainsFunc := iok (gives := gives) [] (okCons Istrings_IndexFunc_ok okNil) 9 follows Tryz.func204 (by kernel_rfl) (fun x => by kernel_rfl) (Estrings_ContainsFunc Xstrings_IndexFunc)
abbrev Tabbr_Right : Type := ByteArray → (Bool → Prop) → Prop
def Yabbr_Right (xstrings_ContainsFunc : Tstrings_ContainsFunc) (a0 : ByteArray) (K : Bool → Prop) : Prop :=
 (if decide ((↑(ByteArray.size a0) : Int) ≥ 3) then
 (if decide ((↑(ByteArray.size a0) : Int) ≤ 16) then
 xstrings_ContainsFunc a0 (fun r1 =>
 K !r1)
 else
 K false)
 else
 K false)
def Xabbr_Right : Tabbr_Right := Yabbr_Right Xstrings_ContainsFunc
def Jabbr_Right (X : Tabbr_Right) : Inst := mkI 133 pL8 .nil pL1 .nil X
def Iabbr_Right : Inst := Jabbr_Right Xabbr_Right
theorem Eabbr_Right (xstrings_ContainsFunc : Tstrings_ContainsFunc) : EqF Tryz.prog 18 gives Tryz.f133 [Jstrings_ContainsFunc xstrings_ContainsFunc] [] (Jabbr_Right (Yabbr_Right xstrings_ContainsFunc)) := fun x y K => by kernel_rfl
theorem Iabbr_Right_ok : InstOk Tryz.prog G.1 Iabbr_Right := iok (gives := gives) [] (okCons Istrings_ContainsFunc_ok okNil) 18 follows Tryz.func133 (by kernel_rfl) (fun x => by kernel_rfl) (Eabbr_Right Xstrings_ContainsFunc)
abbrev Tabbr_Pool : Type := (List Eng.V) → (ByteArray → Bool → (List Eng.V) → Bool → Bool → Prop) → Prop
def Labbr_Pool_0 (xabbr_Right : Tabbr_Right) (K : ByteArray → Bool → (List Eng.V) → Bool → Bool → Prop) : (Q9 → Prop) → Q9 → Prop := fun k1 x2 =>
 (if decide (x2.1.2.2.2.2.2.2.1 < x2.1.2.2.2.2.2.1) then
 (if 0 ≤ x2.1.2.2.2.2.2.2.1 ∧ x2.1.2.2.2.2.2.2.1 < (↑(List.length x2.1.2.2.2.2.1) : Int) then
 (Eng.asStr (Eng.getC x2.1.2.2.2.2.1 (Int.toNat x2.1.2.2.2.2.2.2.1) (0 : Nat)) False fun t3 =>
 xabbr_Right t3 (fun r4 =>
 (if (!r4) then
 K (ByteArray.mk #[]) false [] true true
 else
 (Eng.asMpI IntKind.i64 (Eng.mpGet t3 x2.2.1) False fun n5 n6 =>
 (if (!n6) then
 (if Option.isSome (Eng.mpGet t3 x2.2.1) then
 (if (↑(ByteArray.size t3 + (1 : Nat)) : Int) > 9223372036854775807 then
 False
 else
 (if (↑(ByteArray.size x2.1.1 + ByteArray.size (t3 ++ ByteArray.mk #[(0 : UInt8)])) : Int) > 9223372036854775807 then
 False
 else
 (lt (x2.1.1 ++ (t3 ++ ByteArray.mk #[(0 : UInt8)])) fun v7 =>
 (if Eng.roomOk (List.length x2.2.2.1 + List.length [Eng.V.c (Value.int IntKind.i64 (↑(ByteArray.size x2.1.1) : Int))]) (8 : Nat) then
 k1 ((v7, (), x2.1.2.2.1, (), x2.1.2.2.2.2.1, x2.1.2.2.2.2.2.1, w64 (x2.1.2.2.2.2.2.2.1 + 1), ()), Eng.mpPut t3 (Eng.V.c (Value.int IntKind.i64 (↑(ByteArray.size x2.1.1) : Int))) x2.2.1, x2.2.2.1 ++ [Eng.V.c (Value.int IntKind.i64 (↑(ByteArray.size x2.1.1) : Int))], ())
 else
 False))))
 else
 False)
 else
 (if Eng.roomOk (List.length x2.2.2.1 + List.length [Eng.V.c (Value.int IntKind.i64 n5)]) (8 : Nat) then
 k1 ((x2.1.1, (), x2.1.2.2.1, (), x2.1.2.2.2.2.1, x2.1.2.2.2.2.2.1, w64 (x2.1.2.2.2.2.2.2.1 + 1), ()), x2.2.1, x2.2.2.1 ++ [Eng.V.c (Value.int IntKind.i64 n5)], ())
 else
 False))))))
 else
 False)
 else
 (if decide ((↑(ByteArray.size x2.1.1) : Int) > 256) then
 K (ByteArray.mk #[]) false [] true true
 else
 K x2.1.1 true x2.2.2.1 true false))
def Labbr_Pool_0p : Lp := ⟨14396, [.trim 14396, .fat 3 1 816, .trim 14396], pT10, pH11, 0⟩
def Yabbr_Pool (xabbr_Right : Tabbr_Right) (a0 : (List Eng.V)) (K : ByteArray → Bool → (List Eng.V) → Bool → Bool → Prop) : Prop :=
 lp (Labbr_Pool_0 xabbr_Right K) ((ByteArray.mk #[], (), false, (), a0, (↑(List.length a0) : Int), 0, ()), [], [], ())
def Xabbr_Pool : Tabbr_Pool := Yabbr_Pool Xabbr_Right
def Jabbr_Pool (X : Tabbr_Pool) : Inst := mkI 197 pL12 .nil pL13 pH14 X
def Iabbr_Pool : Inst := Jabbr_Pool Xabbr_Pool
theorem Eabbr_Pool (xabbr_Right : Tabbr_Right) : EqF Tryz.prog 47 gives Tryz.f197 [Jabbr_Right xabbr_Right] [Labbr_Pool_0p] (Jabbr_Pool (Yabbr_Pool xabbr_Right)) := fun x y K => by kernel_rfl
theorem Iabbr_Pool_ok : InstOk Tryz.prog G.1 Iabbr_Pool := iok (gives := gives) [Labbr_Pool_0p] (okCons Iabbr_Right_ok okNil) 47 follows Tryz.func197 (by kernel_rfl) (fun x => by kernel_rfl) (Eabbr_Pool Xabbr_Right)
abbrev Tblock_pool : Type := Q15 → (ByteArray → Bool → (List Eng.V) → Bool → Bool → Prop) → Prop
def Lblock_pool_0 (xabbr_Pool : Tabbr_Pool) (K : ByteArray → Bool → (List Eng.V) → Bool → Bool → Prop) : (Q16 → Prop) → Q16 → Prop := fun k1 x2 =>
 (if decide (x2.1.2.2.2.2.2.2.1 < x2.1.2.2.2.2.2.1) then
 (if 0 ≤ x2.1.2.2.2.2.2.2.1 ∧ x2.1.2.2.2.2.2.2.1 < (↑(List.length x2.1.2.2.2.2.1) : Int) then
 (Eng.asInt IntKind.i64 (Eng.getC x2.1.2.2.2.2.1 (Int.toNat x2.1.2.2.2.2.2.2.1) (0 : Nat)) False fun n3 =>
 (Eng.asBool (Eng.getC x2.1.2.2.2.2.1 (Int.toNat x2.1.2.2.2.2.2.2.1) (1 : Nat)) False fun b4 =>
 (Eng.asStr (Eng.getC x2.1.2.2.2.2.1 (Int.toNat x2.1.2.2.2.2.2.2.1) (2 : Nat)) False fun t5 =>
 (if Eng.roomOk (List.length x2.2.1 + List.length [Eng.V.c (Value.string t5)]) (16 : Nat) then
 k1 ((x2.1.1, (), x2.1.2.2.1, (), x2.1.2.2.2.2.1, x2.1.2.2.2.2.2.1, w64 (x2.1.2.2.2.2.2.2.1 + 1), ()), x2.2.1 ++ [Eng.V.c (Value.string t5)], ())
 else
 False))))
 else
 False)
 else
 xabbr_Pool x2.2.1 (fun r6 r7 r8 r9 r10 =>
 K r6 r7 r8 r9 r10))
def Lblock_pool_0p : Lp := ⟨3644, [.trim 3644, .fat 5 1 480, .trim 3644], pT17, pH18, 0⟩
def Yblock_pool (xabbr_Pool : Tabbr_Pool) (a0 : Q15) (K : ByteArray → Bool → (List Eng.V) → Bool → Bool → Prop) : Prop :=
 lp (Lblock_pool_0 xabbr_Pool K) ((ByteArray.mk #[], (), false, (), a0.1, (↑(List.length a0.1) : Int), 0, ()), [], ())
def Xblock_pool : Tblock_pool := Yblock_pool Xabbr_Pool
def Jblock_pool (X : Tblock_pool) : Inst := mkI 122 pL19 .nil pL13 pH14 X
def Iblock_pool : Inst := Jblock_pool Xblock_pool
theorem Eblock_pool (xabbr_Pool : Tabbr_Pool) : EqF Tryz.prog 26 gives Tryz.f122 [Jabbr_Pool xabbr_Pool] [Lblock_pool_0p] (Jblock_pool (Yblock_pool xabbr_Pool)) := fun x y K => by kernel_rfl
theorem Iblock_pool_ok : InstOk Tryz.prog G.1 Iblock_pool := iok (gives := gives) [Lblock_pool_0p] (okCons Iabbr_Pool_ok okNil) 26 follows Tryz.func122 (by kernel_rfl) (fun x => by kernel_rfl) (Eblock_pool Xabbr_Pool)
abbrev Thead_within : Type := Int → Int → Int → (Bool → Prop) → Prop
def Yhead_within (a0 : Int) (a1 : Int) (a2 : Int) (K : Bool → Prop) : Prop :=
 (if decide (a0 ≥ a1) then
 K (decide (a0 ≤ a2))
 else
 K false)
def Xhead_within : Thead_within := Yhead_within
def Jhead_within (X : Thead_within) : Inst := mkI 217 pL20 .nil pL1 .nil X
def Ihead_within : Inst := Jhead_within Xhead_within
theorem Ehead_within : EqF Tryz.prog 15 gives Tryz.f217 [] [] (Jhead_within (Yhead_within)) := fun x y K => by kernel_rfl
theorem Ihead_within_ok : InstOk Tryz.prog G.1 Ihead_within := iok (gives := gives) [] okNil 15 follows Tryz.func217 (by kernel_rfl) (fun x => by kernel_rfl) (Ehead_within)
abbrev Thead_Right : Type := Q21 → (Bool → Prop) → Prop
def Yhead_Right (xhead_within : Thead_within) (a0 : Q21) (K : Bool → Prop) : Prop :=
 xhead_within a0.2.2.2.1 0 201 (fun r1 =>
 (if r1 then
 xhead_within a0.2.2.2.2.1 0 2000 (fun r2 =>
 (if r2 then
 xhead_within a0.2.2.2.2.2.1 1 64 (fun r3 =>
 (if r3 then
 xhead_within a0.2.2.2.2.2.2.1 1 256 (fun r4 =>
 (if (a0.2.1 == 0) then
 (if (a0.2.2.1 == 0) then
 (if r4 then
 xhead_within a0.1 1 4 (fun r5 =>
 K r5)
 else
 K false)
 else
 (if r4 then
 (if (a0.2.2.1 == a0.2.2.2.2.2.1) then
 xhead_within a0.1 1 4 (fun r6 =>
 K r6)
 else
 K false)
 else
 K false))
 else
 (if (a0.2.1 == a0.2.2.2.2.2.1) then
 (if (a0.2.2.1 == 0) then
 (if r4 then
 xhead_within a0.1 1 4 (fun r7 =>
 K r7)
 else
 K false)
 else
 (if r4 then
 (if (a0.2.2.1 == a0.2.2.2.2.2.1) then
 xhead_within a0.1 1 4 (fun r8 =>
 K r8)
 else
 K false)
 else
 K false))
 else
 (if r4 then
 K false
 else
 K false))))
 else
 (if (a0.2.1 == 0) then
 (if (a0.2.2.1 == 0) then
 K false
 else
 K false)
 else
 (if (a0.2.1 == a0.2.2.2.2.2.1) then
 (if (a0.2.2.1 == 0) then
 K false
 else
 K false)
 else
 K false))))
 else
 (if (a0.2.1 == 0) then
 (if (a0.2.2.1 == 0) then
 K false
 else
 K false)
 else
 (if (a0.2.1 == a0.2.2.2.2.2.1) then
 (if (a0.2.2.1 == 0) then
 K false
 else
 K false)
 else
 K false))))
 else
 (if (a0.2.1 == 0) then
 (if (a0.2.2.1 == 0) then
 K false
 else
 K false)
 else
 (if (a0.2.1 == a0.2.2.2.2.2.1) then
 (if (a0.2.2.1 == 0) then
 K false
 else
 K false)
 else
 K false))))
def Xhead_Right : Thead_Right := Yhead_Right Xhead_within
def Jhead_Right (X : Thead_Right) : Inst := mkI 159 pL22 .nil pL1 .nil X
def Ihead_Right : Inst := Jhead_Right Xhead_Right
theorem Ehead_Right (xhead_within : Thead_within) : EqF Tryz.prog 54 gives Tryz.f159 [Jhead_within xhead_within] [] (Jhead_Right (Yhead_Right xhead_within)) := fun x y K => by kernel_rfl
theorem Ihead_Right_ok : InstOk Tryz.prog G.1 Ihead_Right := iok (gives := gives) [] (okCons Ihead_within_ok okNil) 54 follows Tryz.func159 (by kernel_rfl) (fun x => by kernel_rfl) (Ehead_Right Xhead_within)
abbrev Tblock_Count : Type := Q15 → (Q21 → Bool → Prop) → Prop
def Yblock_Count (xblock_pool : Tblock_pool) (xhead_Right : Thead_Right) (a0 : Q15) (K : Q21 → Bool → Prop) : Prop :=
 xblock_pool a0 (fun r1 r2 r3 r4 r5 =>
 (if (!r2) then
 K (0, 0, 0, 0, 0, 0, 0, ()) false
 else
 xhead_Right (a0.2.2.2.2.1, 0, 0, (↑(List.length a0.2.2.1) : Int), (↑(List.length a0.2.1) : Int), (↑(List.length a0.1) : Int), (↑(ByteArray.size r1) : Int), ()) (fun r6 =>
 (if (!r6) then
 K (0, 0, 0, 0, 0, 0, 0, ()) false
 else
 K (a0.2.2.2.2.1, 0, 0, (↑(List.length a0.2.2.1) : Int), (↑(List.length a0.2.1) : Int), (↑(List.length a0.1) : Int), (↑(ByteArray.size r1) : Int), ()) true))))
def Xblock_Count : Tblock_Count := Yblock_Count Xblock_pool Xhead_Right
def Jblock_Count (X : Tblock_Count) : Inst := mkI 77 pL19 .nil pL23 .nil X
def Iblock_Count : Inst := Jblock_Count Xblock_Count
theorem Eblock_Count (xblock_pool : Tblock_pool) (xhead_Right : Thead_Right) : EqF Tryz.prog 37 gives Tryz.f77 [Jblock_pool xblock_pool, Jhead_Right xhead_Right] [] (Jblock_Count (Yblock_Count xblock_pool xhead_Right)) := fun x y K => by kernel_rfl
theorem Iblock_Count_ok : InstOk Tryz.prog G.1 Iblock_Count := iok (gives := gives) [] (okCons Iblock_pool_ok (okCons Ihead_Right_ok okNil)) 37 follows Tryz.func77 (by kernel_rfl) (fun x => by kernel_rfl) (Eblock_Count Xblock_pool Xhead_Right)
abbrev Tnum_Sub : Type := Int → Int → (Int → Bool → Prop) → Prop
def Ynum_Sub (a0 : Int) (a1 : Int) (K : Int → Bool → Prop) : Prop :=
 (lt (!decide (w64 (a0 - a1) < a0) == decide (a1 > 0)) fun v2 =>
 (if v2 then
 (if (a1 != 0) then
 K 0 false
 else
 K (w64 (a0 - a1)) true)
 else
 K (w64 (a0 - a1)) true))
def Xnum_Sub : Tnum_Sub := Ynum_Sub
def Jnum_Sub (X : Tnum_Sub) : Inst := mkI 86 pL24 .nil pL25 .nil X
def Inum_Sub : Inst := Jnum_Sub Xnum_Sub
theorem Enum_Sub : EqF Tryz.prog 21 gives Tryz.f86 [] [] (Jnum_Sub (Ynum_Sub)) := fun x y K => by kernel_rfl
theorem Inum_Sub_ok : InstOk Tryz.prog G.1 Inum_Sub := iok (gives := gives) [] okNil 21 follows Tryz.func86 (by kernel_rfl) (fun x => by kernel_rfl) (Enum_Sub)
abbrev Trecord_Check : Type := (List Eng.V) → (Int → Int → Prop) → Prop
def Lrecord_Check_0 (xnum_Sub : Tnum_Sub) (K : Int → Int → Prop) : (Q26 → Prop) → Q26 → Prop := fun k1 x2 =>
 (if decide (x2.1.2.2.2.2.2.2.1 < x2.1.2.2.2.2.2.1) then
 (if 0 ≤ x2.1.2.2.2.2.2.2.1 ∧ x2.1.2.2.2.2.2.2.1 < (↑(List.length x2.1.2.2.2.2.1) : Int) then
 (Eng.asInt IntKind.i64 (Eng.getC x2.1.2.2.2.2.1 (Int.toNat x2.1.2.2.2.2.2.2.1) (0 : Nat)) False fun n3 =>
 (Eng.asInt IntKind.i64 (Eng.getC x2.1.2.2.2.2.1 (Int.toNat x2.1.2.2.2.2.2.2.1) (1 : Nat)) False fun n4 =>
 xnum_Sub n4 x2.2.1.2.1 (fun r5 r6 =>
 (if r6 then
 (if (r5 == 0) then
 (if (x2.1.2.2.2.2.2.2.1 == w64 ((↑(List.length x2.1.1) : Int) - 1)) then
 (if decide (x2.1.2.2.2.2.2.2.1 > 200) then
 K x2.1.2.2.2.2.2.2.1 8
 else
 (if decide (n3 < 0) then
 K x2.1.2.2.2.2.2.2.1 9
 else
 (if (!x2.1.2.2.2.2.2.2.1 == w64 ((↑(List.length x2.1.1) : Int) - 1)) then
 (if (!r6) then
 K x2.1.2.2.2.2.2.2.1 6
 else
 (if (r5 != 1) then
 (if (r5 != (-1)) then
 K x2.1.2.2.2.2.2.2.1 6
 else
 (if decide (x2.1.2.2.2.2.2.2.1 > 0) then
 (if decide (w64 (n3 - x2.2.1.1) < 0) then
 K x2.1.2.2.2.2.2.2.1 7
 else
 k1 ((x2.1.1, x2.1.2.1, x2.1.2.2.1, (), x2.1.2.2.2.2.1, x2.1.2.2.2.2.2.1, w64 (x2.1.2.2.2.2.2.2.1 + 1), ()), (n3, n4, ()), ()))
 else
 k1 ((x2.1.1, x2.1.2.1, x2.1.2.2.1, (), x2.1.2.2.2.2.1, x2.1.2.2.2.2.2.1, w64 (x2.1.2.2.2.2.2.2.1 + 1), ()), (n3, n4, ()), ())))
 else
 (if decide (x2.1.2.2.2.2.2.2.1 > 0) then
 (if decide (w64 (n3 - x2.2.1.1) < 0) then
 K x2.1.2.2.2.2.2.2.1 7
 else
 k1 ((x2.1.1, x2.1.2.1, x2.1.2.2.1, (), x2.1.2.2.2.2.1, x2.1.2.2.2.2.2.1, w64 (x2.1.2.2.2.2.2.2.1 + 1), ()), (n3, n4, ()), ()))
 else
 k1 ((x2.1.1, x2.1.2.1, x2.1.2.2.1, (), x2.1.2.2.2.2.1, x2.1.2.2.2.2.2.1, w64 (x2.1.2.2.2.2.2.2.1 + 1), ()), (n3, n4, ()), ()))))
 else
 (if decide (x2.1.2.2.2.2.2.2.1 > 0) then
 (if decide (w64 (n3 - x2.2.1.1) < 0) then
 K x2.1.2.2.2.2.2.2.1 7
 else
 k1 ((x2.1.1, x2.1.2.1, x2.1.2.2.1, (), x2.1.2.2.2.2.1, x2.1.2.2.2.2.2.1, w64 (x2.1.2.2.2.2.2.2.1 + 1), ()), (n3, n4, ()), ()))
 else
 k1 ((x2.1.1, x2.1.2.1, x2.1.2.2.1, (), x2.1.2.2.2.2.1, x2.1.2.2.2.2.2.1, w64 (x2.1.2.2.2.2.2.2.1 + 1), ()), (n3, n4, ()), ())))))
 else
 (if decide (x2.1.2.2.2.2.2.2.1 > 200) then
 K x2.1.2.2.2.2.2.2.1 8
 else
 (if decide (n3 < 0) then
 K x2.1.2.2.2.2.2.2.1 9
 else
 (if (!x2.1.2.2.2.2.2.2.1 == w64 ((↑(List.length x2.1.1) : Int) - 1)) then
 (if (!r6) then
 K x2.1.2.2.2.2.2.2.1 6
 else
 (if (r5 != 1) then
 (if (r5 != (-1)) then
 K x2.1.2.2.2.2.2.2.1 6
 else
 (if decide (x2.1.2.2.2.2.2.2.1 > 0) then
 (if decide (w64 (n3 - x2.2.1.1) < 2419199) then
 K x2.1.2.2.2.2.2.2.1 7
 else
 k1 ((x2.1.1, x2.1.2.1, x2.1.2.2.1, (), x2.1.2.2.2.2.1, x2.1.2.2.2.2.2.1, w64 (x2.1.2.2.2.2.2.2.1 + 1), ()), (n3, n4, ()), ()))
 else
 k1 ((x2.1.1, x2.1.2.1, x2.1.2.2.1, (), x2.1.2.2.2.2.1, x2.1.2.2.2.2.2.1, w64 (x2.1.2.2.2.2.2.2.1 + 1), ()), (n3, n4, ()), ())))
 else
 (if decide (x2.1.2.2.2.2.2.2.1 > 0) then
 (if decide (w64 (n3 - x2.2.1.1) < 2419199) then
 K x2.1.2.2.2.2.2.2.1 7
 else
 k1 ((x2.1.1, x2.1.2.1, x2.1.2.2.1, (), x2.1.2.2.2.2.1, x2.1.2.2.2.2.2.1, w64 (x2.1.2.2.2.2.2.2.1 + 1), ()), (n3, n4, ()), ()))
 else
 k1 ((x2.1.1, x2.1.2.1, x2.1.2.2.1, (), x2.1.2.2.2.2.1, x2.1.2.2.2.2.2.1, w64 (x2.1.2.2.2.2.2.2.1 + 1), ()), (n3, n4, ()), ()))))
 else
 (if decide (x2.1.2.2.2.2.2.2.1 > 0) then
 (if decide (w64 (n3 - x2.2.1.1) < 2419199) then
 K x2.1.2.2.2.2.2.2.1 7
 else
 k1 ((x2.1.1, x2.1.2.1, x2.1.2.2.1, (), x2.1.2.2.2.2.1, x2.1.2.2.2.2.2.1, w64 (x2.1.2.2.2.2.2.2.1 + 1), ()), (n3, n4, ()), ()))
 else
 k1 ((x2.1.1, x2.1.2.1, x2.1.2.2.1, (), x2.1.2.2.2.2.1, x2.1.2.2.2.2.2.1, w64 (x2.1.2.2.2.2.2.2.1 + 1), ()), (n3, n4, ()), ()))))))
 else
 (if decide (x2.1.2.2.2.2.2.2.1 > 200) then
 K x2.1.2.2.2.2.2.2.1 8
 else
 (if decide (n3 < 0) then
 K x2.1.2.2.2.2.2.2.1 9
 else
 (if (!r6) then
 K x2.1.2.2.2.2.2.2.1 6
 else
 (if (r5 != 1) then
 (if (r5 != (-1)) then
 K x2.1.2.2.2.2.2.2.1 6
 else
 (if decide (x2.1.2.2.2.2.2.2.1 > 0) then
 (if decide (w64 (n3 - x2.2.1.1) < 2419199) then
 K x2.1.2.2.2.2.2.2.1 7
 else
 k1 ((x2.1.1, x2.1.2.1, x2.1.2.2.1, (), x2.1.2.2.2.2.1, x2.1.2.2.2.2.2.1, w64 (x2.1.2.2.2.2.2.2.1 + 1), ()), (n3, n4, ()), ()))
 else
 k1 ((x2.1.1, x2.1.2.1, x2.1.2.2.1, (), x2.1.2.2.2.2.1, x2.1.2.2.2.2.2.1, w64 (x2.1.2.2.2.2.2.2.1 + 1), ()), (n3, n4, ()), ())))
 else
 (if decide (x2.1.2.2.2.2.2.2.1 > 0) then
 (if decide (w64 (n3 - x2.2.1.1) < 2419199) then
 K x2.1.2.2.2.2.2.2.1 7
 else
 k1 ((x2.1.1, x2.1.2.1, x2.1.2.2.1, (), x2.1.2.2.2.2.1, x2.1.2.2.2.2.2.1, w64 (x2.1.2.2.2.2.2.2.1 + 1), ()), (n3, n4, ()), ()))
 else
 k1 ((x2.1.1, x2.1.2.1, x2.1.2.2.1, (), x2.1.2.2.2.2.1, x2.1.2.2.2.2.2.1, w64 (x2.1.2.2.2.2.2.2.1 + 1), ()), (n3, n4, ()), ())))))))
 else
 (if decide (x2.1.2.2.2.2.2.2.1 > 200) then
 K x2.1.2.2.2.2.2.2.1 8
 else
 (if decide (n3 < 0) then
 K x2.1.2.2.2.2.2.2.1 9
 else
 (if (!r6) then
 K x2.1.2.2.2.2.2.2.1 6
 else
 (if (r5 != 1) then
 (if (r5 != (-1)) then
 K x2.1.2.2.2.2.2.2.1 6
 else
 (if decide (x2.1.2.2.2.2.2.2.1 > 0) then
 (if decide (w64 (n3 - x2.2.1.1) < 2419199) then
 K x2.1.2.2.2.2.2.2.1 7
 else
 k1 ((x2.1.1, x2.1.2.1, x2.1.2.2.1, (), x2.1.2.2.2.2.1, x2.1.2.2.2.2.2.1, w64 (x2.1.2.2.2.2.2.2.1 + 1), ()), (n3, n4, ()), ()))
 else
 k1 ((x2.1.1, x2.1.2.1, x2.1.2.2.1, (), x2.1.2.2.2.2.1, x2.1.2.2.2.2.2.1, w64 (x2.1.2.2.2.2.2.2.1 + 1), ()), (n3, n4, ()), ())))
 else
 (if decide (x2.1.2.2.2.2.2.2.1 > 0) then
 (if decide (w64 (n3 - x2.2.1.1) < 2419199) then
 K x2.1.2.2.2.2.2.2.1 7
 else
 k1 ((x2.1.1, x2.1.2.1, x2.1.2.2.1, (), x2.1.2.2.2.2.1, x2.1.2.2.2.2.2.1, w64 (x2.1.2.2.2.2.2.2.1 + 1), ()), (n3, n4, ()), ()))
 else
 k1 ((x2.1.1, x2.1.2.1, x2.1.2.2.1, (), x2.1.2.2.2.2.1, x2.1.2.2.2.2.2.1, w64 (x2.1.2.2.2.2.2.2.1 + 1), ()), (n3, n4, ()), ()))))))))))
 else
 False)
 else
 K (↑(List.length x2.1.1) : Int) 0)
def Lrecord_Check_0p : Lp := ⟨28701, [.trim 28701], pT27, pH28, 0⟩
def Yrecord_Check (xnum_Sub : Tnum_Sub) (a0 : (List Eng.V)) (K : Int → Int → Prop) : Prop :=
 lp (Lrecord_Check_0 xnum_Sub K) ((a0, 0, 0, (), a0, (↑(List.length a0) : Int), 0, ()), ((-2419199), 0, ()), ())
def Xrecord_Check : Trecord_Check := Yrecord_Check Xnum_Sub
def Jrecord_Check (X : Trecord_Check) : Inst := mkI 95 pL29 .nil pL24 .nil X
def Irecord_Check : Inst := Jrecord_Check Xrecord_Check
theorem Erecord_Check (xnum_Sub : Tnum_Sub) : EqF Tryz.prog 82 gives Tryz.f95 [Jnum_Sub xnum_Sub] [Lrecord_Check_0p] (Jrecord_Check (Yrecord_Check xnum_Sub)) := fun x y K => by kernel_rfl
theorem Irecord_Check_ok : InstOk Tryz.prog G.1 Irecord_Check := iok (gives := gives) [Lrecord_Check_0p] (okCons Inum_Sub_ok okNil) 82 follows Tryz.func95 (by kernel_rfl) (fun x => by kernel_rfl) (Erecord_Check Xnum_Sub)
abbrev Trecord_Right : Type := (List Eng.V) → (Bool → Prop) → Prop
def Yrecord_Right (xrecord_Check : Trecord_Check) (a0 : (List Eng.V)) (K : Bool → Prop) : Prop :=
 xrecord_Check a0 (fun r1 r2 =>
 K (r2 == 0))
def Xrecord_Right : Trecord_Right := Yrecord_Right Xrecord_Check
def Jrecord_Right (X : Trecord_Right) : Inst := mkI 99 pL29 .nil pL1 .nil X
def Irecord_Right : Inst := Jrecord_Right Xrecord_Right
theorem Erecord_Right (xrecord_Check : Trecord_Check) : EqF Tryz.prog 12 gives Tryz.f99 [Jrecord_Check xrecord_Check] [] (Jrecord_Right (Yrecord_Right xrecord_Check)) := fun x y K => by kernel_rfl
theorem Irecord_Right_ok : InstOk Tryz.prog G.1 Irecord_Right := iok (gives := gives) [] (okCons Irecord_Check_ok okNil) 12 follows Tryz.func99 (by kernel_rfl) (fun x => by kernel_rfl) (Erecord_Right Xrecord_Check)
abbrev Trecord_leaps : Type := (List Eng.V) → ((List Eng.V) → Bool → Bool → Prop) → Prop
def Yrecord_leaps (a0 : (List Eng.V)) (K : (List Eng.V) → Bool → Bool → Prop) : Prop :=
 (if (w64 ((↑(List.length a0) : Int) - 1) == 0) then
 (if (0 :Int) ≤ 0 ∧ 0 < (↑(List.length a0) : Int) then
 (Eng.asInt IntKind.i64 (Eng.getC a0 (0 : Nat) (1 : Nat)) False fun n1 =>
 (if (n1 == 0) then
 (if (n1 == 0) then
 (if 0 ≤ w64 ((↑(List.length a0) : Int) - 1) ∧ w64 ((↑(List.length a0) : Int) - 1) ≤ (↑(List.length a0) : Int) then
 (if (0 :Int) ≤ 0 ∧ 0 ≤ w64 ((↑(List.length a0) : Int) - 1) then
 K (Eng.cutL a0 (0 : Nat) (Int.toNat (w64 ((↑(List.length a0) : Int) - 1)) - (0 : Nat))) false true
 else
 False)
 else
 False)
 else
 K a0 false true)
 else
 (if decide (w64 ((↑(List.length a0) : Int) - 1) > 0) then
 (if 0 ≤ w64 ((↑(List.length a0) : Int) - 1) ∧ w64 ((↑(List.length a0) : Int) - 1) < (↑(List.length a0) : Int) then
 (Eng.asInt IntKind.i64 (Eng.getC a0 (Int.toNat (w64 ((↑(List.length a0) : Int) - 1))) (1 : Nat)) False fun n2 =>
 (lt (w64 (w64 ((↑(List.length a0) : Int) - 1) - 1)) fun v3 =>
 (if 0 ≤ v3 ∧ v3 < (↑(List.length a0) : Int) then
 (Eng.asInt IntKind.i64 (Eng.getC a0 (Int.toNat v3) (1 : Nat)) False fun n4 =>
 (if (n2 == n4) then
 (if 0 ≤ w64 ((↑(List.length a0) : Int) - 1) ∧ w64 ((↑(List.length a0) : Int) - 1) ≤ (↑(List.length a0) : Int) then
 (if (0 :Int) ≤ 0 ∧ 0 ≤ w64 ((↑(List.length a0) : Int) - 1) then
 K (Eng.cutL a0 (0 : Nat) (Int.toNat (w64 ((↑(List.length a0) : Int) - 1)) - (0 : Nat))) false true
 else
 False)
 else
 False)
 else
 K a0 false true))
 else
 False)))
 else
 False)
 else
 K a0 false true)))
 else
 False)
 else
 (if decide (w64 ((↑(List.length a0) : Int) - 1) > 0) then
 (if 0 ≤ w64 ((↑(List.length a0) : Int) - 1) ∧ w64 ((↑(List.length a0) : Int) - 1) < (↑(List.length a0) : Int) then
 (Eng.asInt IntKind.i64 (Eng.getC a0 (Int.toNat (w64 ((↑(List.length a0) : Int) - 1))) (1 : Nat)) False fun n5 =>
 (lt (w64 (w64 ((↑(List.length a0) : Int) - 1) - 1)) fun v6 =>
 (if 0 ≤ v6 ∧ v6 < (↑(List.length a0) : Int) then
 (Eng.asInt IntKind.i64 (Eng.getC a0 (Int.toNat v6) (1 : Nat)) False fun n7 =>
 (if (n5 == n7) then
 (if 0 ≤ w64 ((↑(List.length a0) : Int) - 1) ∧ w64 ((↑(List.length a0) : Int) - 1) ≤ (↑(List.length a0) : Int) then
 (if (0 :Int) ≤ 0 ∧ 0 ≤ w64 ((↑(List.length a0) : Int) - 1) then
 K (Eng.cutL a0 (0 : Nat) (Int.toNat (w64 ((↑(List.length a0) : Int) - 1)) - (0 : Nat))) false true
 else
 False)
 else
 False)
 else
 K a0 false true))
 else
 False)))
 else
 False)
 else
 K a0 false true))
def Xrecord_leaps : Trecord_leaps := Yrecord_leaps
def Jrecord_leaps (X : Trecord_leaps) : Inst := mkI 166 pL29 .nil pL30 pH31 X
def Irecord_leaps : Inst := Jrecord_leaps Xrecord_leaps
theorem Erecord_leaps : EqF Tryz.prog 37 gives Tryz.f166 [] [] (Jrecord_leaps (Yrecord_leaps)) := fun x y K => by kernel_rfl
theorem Irecord_leaps_ok : InstOk Tryz.prog G.1 Irecord_leaps := iok (gives := gives) [] okNil 37 follows Tryz.func166 (by kernel_rfl) (fun x => by kernel_rfl) (Erecord_leaps)
abbrev Trecord_Expiry : Type := (List Eng.V) → (Int → Bool → Prop) → Prop
def Yrecord_Expiry (xrecord_leaps : Trecord_leaps) (a0 : (List Eng.V)) (K : Int → Bool → Prop) : Prop :=
 xrecord_leaps a0 (fun r1 r2 r3 =>
 (if decide ((↑(List.length r1) : Int) < (↑(List.length a0) : Int)) then
 (if 0 ≤ (↑(List.length r1) : Int) ∧ (↑(List.length r1) : Int) < (↑(List.length a0) : Int) then
 (Eng.asInt IntKind.i64 (Eng.getC a0 (Int.toNat (↑(List.length r1) : Int)) (0 : Nat)) False fun n4 =>
 K n4 true)
 else
 False)
 else
 K 0 false))
def Xrecord_Expiry : Trecord_Expiry := Yrecord_Expiry Xrecord_leaps
def Jrecord_Expiry (X : Trecord_Expiry) : Inst := mkI 100 pL29 .nil pL25 .nil X
def Irecord_Expiry : Inst := Jrecord_Expiry Xrecord_Expiry
theorem Erecord_Expiry (xrecord_leaps : Trecord_leaps) : EqF Tryz.prog 17 gives Tryz.f100 [Jrecord_leaps xrecord_leaps] [] (Jrecord_Expiry (Yrecord_Expiry xrecord_leaps)) := fun x y K => by kernel_rfl
theorem Irecord_Expiry_ok : InstOk Tryz.prog G.1 Irecord_Expiry := iok (gives := gives) [] (okCons Irecord_leaps_ok okNil) 17 follows Tryz.func100 (by kernel_rfl) (fun x => by kernel_rfl) (Erecord_Expiry Xrecord_leaps)
abbrev Tzone_Right_1 : Type := Int → Q32 → (Bool → Prop) → Prop
def Yzone_Right_1 (a0 : Int) (a1 : Q32) (K : Bool → Prop) : Prop :=
 (if decide (a1.1 ≥ (-89999)) then
 K (decide (a1.1 ≤ 93599))
 else
 K false)
def Xzone_Right_1 : Tzone_Right_1 := Yzone_Right_1
def Jzone_Right_1 (X : Tzone_Right_1) : Inst := mkI 102 pL33 .nil pL1 .nil X
def Izone_Right_1 : Inst := Jzone_Right_1 Xzone_Right_1
theorem Ezone_Right_1 : EqF Tryz.prog 13 gives Tryz.f102 [] [] (Jzone_Right_1 (Yzone_Right_1)) := fun x y K => by kernel_rfl
theorem Izone_Right_1_ok : InstOk Tryz.prog G.1 Izone_Right_1 := iok (gives := gives) [] okNil 13 follows Tryz.func102 (by kernel_rfl) (fun x => by kernel_rfl) (Ezone_Right_1)
abbrev Tzone_all_api_Type_ : Type := (List Eng.V) → (Bool → Prop) → Prop
def Lzone_all_api_Type__0 (xzone_Right_1 : Tzone_Right_1) (K : Bool → Prop) : (Q34 → Prop) → Q34 → Prop := fun k1 x2 =>
 (if decide (x2.1.2.2.2.2.1 < x2.1.2.2.2.1) then
 (if 0 ≤ x2.1.2.2.2.2.1 ∧ x2.1.2.2.2.2.1 < (↑(List.length x2.1.2.2.1) : Int) then
 (Eng.asInt IntKind.i64 (Eng.getC x2.1.2.2.1 (Int.toNat x2.1.2.2.2.2.1) (0 : Nat)) False fun n3 =>
 (Eng.asBool (Eng.getC x2.1.2.2.1 (Int.toNat x2.1.2.2.2.2.1) (1 : Nat)) False fun b4 =>
 (Eng.asStr (Eng.getC x2.1.2.2.1 (Int.toNat x2.1.2.2.2.2.1) (2 : Nat)) False fun t5 =>
 xzone_Right_1 x2.1.2.2.2.2.1 (n3, b4, t5, ()) (fun r6 =>
 (if (!r6) then
 K false
 else
 k1 ((((), ()), x2.1.2.1, x2.1.2.2.1, x2.1.2.2.2.1, w64 (x2.1.2.2.2.2.1 + 1), ()), ()))))))
 else
 False)
 else
 K true)
def Lzone_all_api_Type__0p : Lp := ⟨914, [.trim 914], pT35, .nil, 0⟩
def Yzone_all_api_Type_ (xzone_Right_1 : Tzone_Right_1) (a0 : (List Eng.V)) (K : Bool → Prop) : Prop :=
 lp (Lzone_all_api_Type__0 xzone_Right_1 K) ((((), ()), false, a0, (↑(List.length a0) : Int), 0, ()), ())
def Xzone_all_api_Type_ : Tzone_all_api_Type_ := Yzone_all_api_Type_ Xzone_Right_1
def Jzone_all_api_Type_ (X : Tzone_all_api_Type_) : Inst := mkI 101 pL36 .nil pL1 .nil X
def Izone_all_api_Type_ : Inst := Jzone_all_api_Type_ Xzone_all_api_Type_
theorem Ezone_all_api_Type_ (xzone_Right_1 : Tzone_Right_1) : EqF Tryz.prog 20 gives Tryz.f101 [Jzone_Right_1 xzone_Right_1] [Lzone_all_api_Type__0p] (Jzone_all_api_Type_ (Yzone_all_api_Type_ xzone_Right_1)) := fun x y K => by kernel_rfl
theorem Izone_all_api_Type__ok : InstOk Tryz.prog G.1 Izone_all_api_Type_ := iok (gives := gives) [Lzone_all_api_Type__0p] (okCons Izone_Right_1_ok okNil) 20 follows Tryz.func101 (by kernel_rfl) (fun x => by kernel_rfl) (Ezone_all_api_Type_ Xzone_Right_1)
abbrev Tzone_Right_2 : Type := Int → Q37 → (List Eng.V) → (List Eng.V) → (List Eng.V) → ByteArray → Int → (Bool → ByteArray → Int → (List Eng.V) → Bool → Bool → (List Eng.V) → Bool → Bool → (List Eng.V) → Bool → Bool → Prop) → Prop
def Yzone_Right_2 (a0 : Int) (a1 : Q37) (a2 : (List Eng.V)) (a3 : (List Eng.V)) (a4 : (List Eng.V)) (a5 : ByteArray) (a6 : Int) (K : Bool → ByteArray → Int → (List Eng.V) → Bool → Bool → (List Eng.V) → Bool → Bool → (List Eng.V) → Bool → Bool → Prop) : Prop :=
 (if decide (a1.2.1 ≥ 0) then
 (if decide (a1.2.1 < (↑(List.length a2) : Int)) then
 (if (a0 == 0) then
 K true a5 a6 a2 false true a3 false true a4 false true
 else
 (if 0 ≤ w64 (a0 - 1) ∧ w64 (a0 - 1) < (↑(List.length a3) : Int) then
 (Eng.asInt IntKind.i64 (Eng.getC a3 (Int.toNat (w64 (a0 - 1))) (0 : Nat)) False fun n7 =>
 K (decide (a1.1 > n7)) a5 a6 a2 false true a3 false true a4 false true)
 else
 False))
 else
 K false a5 a6 a2 false true a3 false true a4 false true)
 else
 K false a5 a6 a2 false true a3 false true a4 false true)
def Xzone_Right_2 : Tzone_Right_2 := Yzone_Right_2
def Jzone_Right_2 (X : Tzone_Right_2) : Inst := mkI 104 pL38 pH39 pL1 pH40 X
def Izone_Right_2 : Inst := Jzone_Right_2 Xzone_Right_2
theorem Ezone_Right_2 : EqF Tryz.prog 33 gives Tryz.f104 [] [] (Jzone_Right_2 (Yzone_Right_2)) := fun x y K => by kernel_rfl
theorem Izone_Right_2_ok : InstOk Tryz.prog G.1 Izone_Right_2 := iok (gives := gives) [] okNil 33 follows Tryz.func104 (by kernel_rfl) (fun x => by kernel_rfl) (Ezone_Right_2)
abbrev Tzone_all_api_Trans_ : Type := (List Eng.V) → (List Eng.V) → (List Eng.V) → (List Eng.V) → ByteArray → Int → (Bool → ByteArray → Int → (List Eng.V) → Bool → Bool → (List Eng.V) → Bool → Bool → (List Eng.V) → Bool → Bool → Prop) → Prop
def Lzone_all_api_Trans__0 (xzone_Right_2 : Tzone_Right_2) (K : Bool → ByteArray → Int → (List Eng.V) → Bool → Bool → (List Eng.V) → Bool → Bool → (List Eng.V) → Bool → Bool → Prop) (a1 : (List Eng.V)) (a2 : (List Eng.V)) (a3 : (List Eng.V)) (a4 : ByteArray) (a5 : Int) : (Q41 → Prop) → Q41 → Prop := fun k6 x7 =>
 (if decide (x7.1.2.2.2.2.1 < x7.1.2.2.2.1) then
 (if 0 ≤ x7.1.2.2.2.2.1 ∧ x7.1.2.2.2.2.1 < (↑(List.length x7.1.2.2.1) : Int) then
 (Eng.asInt IntKind.i64 (Eng.getC x7.1.2.2.1 (Int.toNat x7.1.2.2.2.2.1) (0 : Nat)) False fun n8 =>
 (Eng.asInt IntKind.i64 (Eng.getC x7.1.2.2.1 (Int.toNat x7.1.2.2.2.2.1) (1 : Nat)) False fun n9 =>
 xzone_Right_2 x7.1.2.2.2.2.1 (n8, n9, ()) x7.2.1.1 x7.2.1.2.1 x7.2.1.2.2.1 x7.2.1.2.2.2.1 x7.2.1.2.2.2.2.1 (fun r10 r11 r12 r13 r14 r15 r16 r17 r18 r19 r20 r21 =>
 (if (!r10) then
 K false r11 r12 r13 r14 r15 r16 r17 r18 r19 r20 r21
 else
 k6 ((((), (), ()), x7.1.2.1, x7.1.2.2.1, x7.1.2.2.2.1, w64 (x7.1.2.2.2.2.1 + 1), ()), (r13, r16, r19, r11, r12, ()), ())))))
 else
 False)
 else
 K true x7.2.1.2.2.2.1 x7.2.1.2.2.2.2.1 x7.2.1.1 false true x7.2.1.2.1 false true x7.2.1.2.2.1 false true)
def Lzone_all_api_Trans__0p : Lp := ⟨914, [.trim 914, .thin 336, .trim 914, .thin 337, .trim 914, .thin 338, .trim 914], pT42, pH39, 0⟩
def Yzone_all_api_Trans_ (xzone_Right_2 : Tzone_Right_2) (a0 : (List Eng.V)) (a1 : (List Eng.V)) (a2 : (List Eng.V)) (a3 : (List Eng.V)) (a4 : ByteArray) (a5 : Int) (K : Bool → ByteArray → Int → (List Eng.V) → Bool → Bool → (List Eng.V) → Bool → Bool → (List Eng.V) → Bool → Bool → Prop) : Prop :=
 lp (Lzone_all_api_Trans__0 xzone_Right_2 K a1 a2 a3 a4 a5) ((((), (), ()), false, a0, (↑(List.length a0) : Int), 0, ()), (a1, a2, a3, a4, a5, ()), ())
def Xzone_all_api_Trans_ : Tzone_all_api_Trans_ := Yzone_all_api_Trans_ Xzone_Right_2
def Jzone_all_api_Trans_ (X : Tzone_all_api_Trans_) : Inst := mkI 103 pL43 pH39 pL1 pH40 X
def Izone_all_api_Trans_ : Inst := Jzone_all_api_Trans_ Xzone_all_api_Trans_
theorem Ezone_all_api_Trans_ (xzone_Right_2 : Tzone_Right_2) : EqF Tryz.prog 20 gives Tryz.f103 [Jzone_Right_2 xzone_Right_2] [Lzone_all_api_Trans__0p] (Jzone_all_api_Trans_ (Yzone_all_api_Trans_ xzone_Right_2)) := fun x y K => by kernel_rfl
theorem Izone_all_api_Trans__ok : InstOk Tryz.prog G.1 Izone_all_api_Trans_ := iok (gives := gives) [Lzone_all_api_Trans__0p] (okCons Izone_Right_2_ok okNil) 20 follows Tryz.func103 (by kernel_rfl) (fun x => by kernel_rfl) (Ezone_all_api_Trans_ Xzone_Right_2)
abbrev Tinternal_stringslite_HasPrefix : Type := ByteArray → ByteArray → (Bool → Prop) → Prop
def Yinternal_stringslite_HasPrefix (a0 : ByteArray) (a1 : ByteArray) (K : Bool → Prop) : Prop :=
 (if decide ((↑(ByteArray.size a0) : Int) ≥ (↑(ByteArray.size a1) : Int)) then
 (if 0 ≤ (↑(ByteArray.size a1) : Int) ∧ (↑(ByteArray.size a1) : Int) ≤ (↑(ByteArray.size a0) : Int) then
 K (ByteArray.toList (ByteArray.extract a0 (0 : Nat) (Int.toNat (↑(ByteArray.size a1) : Int))) == ByteArray.toList a1)
 else
 False)
 else
 K false)
def Xinternal_stringslite_HasPrefix : Tinternal_stringslite_HasPrefix := Yinternal_stringslite_HasPrefix
def Jinternal_stringslite_HasPrefix (X : Tinternal_stringslite_HasPrefix) : Inst := mkI 288 pL44 .nil pL1 .nil X
def Iinternal_stringslite_HasPrefix : Inst := Jinternal_stringslite_HasPrefix Xinternal_stringslite_HasPrefix
theorem Einternal_stringslite_HasPrefix : EqF Tryz.prog 18 gives Tryz.f288 [] [] (Jinternal_stringslite_HasPrefix (Yinternal_stringslite_HasPrefix)) := fun x y K => by kernel_rfl
theorem Iinternal_stringslite_HasPrefix_ok : InstOk Tryz.prog G.1 Iinternal_stringslite_HasPrefix := iok (gives := gives) [] okNil 18 follows Tryz.func288 (by kernel_rfl) (fun x => by kernel_rfl) (Einternal_stringslite_HasPrefix)
abbrev Tinternal_stringslite_CutPrefix : Type := ByteArray → ByteArray → (ByteArray → Bool → Prop) → Prop
def Yinternal_stringslite_CutPrefix (xinternal_stringslite_HasPrefix : Tinternal_stringslite_HasPrefix) (a0 : ByteArray) (a1 : ByteArray) (K : ByteArray → Bool → Prop) : Prop :=
 xinternal_stringslite_HasPrefix a0 a1 (fun r2 =>
 (if (!r2) then
 K a0 false
 else
 (if 0 ≤ (↑(ByteArray.size a0) : Int) ∧ (↑(ByteArray.size a0) : Int) ≤ (↑(ByteArray.size a0) : Int) then
 (if 0 ≤ (↑(ByteArray.size a1) : Int) ∧ (↑(ByteArray.size a1) : Int) ≤ (↑(ByteArray.size a0) : Int) then
 K (ByteArray.extract a0 (Int.toNat (↑(ByteArray.size a1) : Int)) (Int.toNat (↑(ByteArray.size a0) : Int))) true
 else
 False)
 else
 False)))
def Xinternal_stringslite_CutPrefix : Tinternal_stringslite_CutPrefix := Yinternal_stringslite_CutPrefix Xinternal_stringslite_HasPrefix
def Jinternal_stringslite_CutPrefix (X : Tinternal_stringslite_CutPrefix) : Inst := mkI 272 pL44 .nil pL45 .nil X
def Iinternal_stringslite_CutPrefix : Inst := Jinternal_stringslite_CutPrefix Xinternal_stringslite_CutPrefix
theorem Einternal_stringslite_CutPrefix (xinternal_stringslite_HasPrefix : Tinternal_stringslite_HasPrefix) : EqF Tryz.prog 15 gives Tryz.f272 [Jinternal_stringslite_HasPrefix xinternal_stringslite_HasPrefix] [] (Jinternal_stringslite_CutPrefix (Yinternal_stringslite_CutPrefix xinternal_stringslite_HasPrefix)) := fun x y K => by kernel_rfl
theorem Iinternal_stringslite_CutPrefix_ok : InstOk Tryz.prog G.1 Iinternal_stringslite_CutPrefix := iok (gives := gives) [] (okCons Iinternal_stringslite_HasPrefix_ok okNil) 15 follows Tryz.func272 (by kernel_rfl) (fun x => by kernel_rfl) (Einternal_stringslite_CutPrefix Xinternal_stringslite_HasPrefix)
abbrev Tstrings_CutPrefix : Type := ByteArray → ByteArray → (ByteArray → Bool → Prop) → Prop
def Ystrings_CutPrefix (xinternal_stringslite_CutPrefix : Tinternal_stringslite_CutPrefix) (a0 : ByteArray) (a1 : ByteArray) (K : ByteArray → Bool → Prop) : Prop :=
 xinternal_stringslite_CutPrefix a0 a1 (fun r2 r3 =>
 K r2 r3)
def Xstrings_CutPrefix : Tstrings_CutPrefix := Ystrings_CutPrefix Xinternal_stringslite_CutPrefix
def Jstrings_CutPrefix (X : Tstrings_CutPrefix) : Inst := mkI 238 pL44 .nil pL45 .nil X
def Istrings_CutPrefix : Inst := Jstrings_CutPrefix Xstrings_CutPrefix
theorem Estrings_CutPrefix (xinternal_stringslite_CutPrefix : Tinternal_stringslite_CutPrefix) : EqF Tryz.prog 11 gives Tryz.f238 [Jinternal_stringslite_CutPrefix xinternal_stringslite_CutPrefix] [] (Jstrings_CutPrefix (Ystrings_CutPrefix xinternal_stringslite_CutPrefix)) := fun x y K => by kernel_rfl
theorem Istrings_CutPrefix_ok : InstOk Tryz.prog G.1 Istrings_CutPrefix := iok (gives := gives) [] (okCons Iinternal_stringslite_CutPrefix_ok okNil) 11 follows Tryz.func238 (by kernel_rfl) (fun x => by kernel_rfl) (Estrings_CutPrefix Xinternal_stringslite_CutPrefix)
abbrev Tinternal_stringslite_Index : Type := ByteArray → ByteArray → (Int → Prop) → Prop
def Yinternal_stringslite_Index (xindexByte : TindexByte) (a0 : ByteArray) (a1 : ByteArray) (K : Int → Prop) : Prop :=
 (if ((↑(ByteArray.size a1) : Int) == 0) then
 K 0
 else
 (if (ByteArray.toList a1 == ByteArray.toList a0) then
 K 0
 else
 (if ((↑(ByteArray.size a1) : Int) == 1) then
 (if (0 :Int) ≤ 0 ∧ 0 < (↑(ByteArray.size a1) : Int) then
 xindexByte a0 (Eng.bAt a1 (0 : Nat)) (fun r2 =>
 K r2)
 else
 False)
 else
 (if decide ((↑(ByteArray.size a1) : Int) ≥ (↑(ByteArray.size a0) : Int)) then
 K (-1)
 else
 False))))
def Xinternal_stringslite_Index : Tinternal_stringslite_Index := Yinternal_stringslite_Index XindexByte
def Jinternal_stringslite_Index (X : Tinternal_stringslite_Index) : Inst := mkI 249 pL44 .nil pL6 .nil X
def Iinternal_stringslite_Index : Inst := Jinternal_stringslite_Index Xinternal_stringslite_Index
theorem Einternal_stringslite_Index (xindexByte : TindexByte) : EqF Tryz.prog 143 gives Tryz.f249 [JindexByte xindexByte] [] (Jinternal_stringslite_Index (Yinternal_stringslite_Index xindexByte)) := fun x y K => by kernel_rfl
theorem Iinternal_stringslite_Index_ok : InstOk Tryz.prog G.1 Iinternal_stringslite_Index := iok (gives := gives) [] (okCons IindexByte_ok okNil) 143 follows Tryz.func249 (by kernel_rfl) (fun x => by kernel_rfl) (Einternal_stringslite_Index XindexByte)
abbrev Tinternal_stringslite_Cut : Type := ByteArray → ByteArray → (ByteArray → ByteArray → Bool → Prop) → Prop
def Yinternal_stringslite_Cut (xinternal_stringslite_Index : Tinternal_stringslite_Index) (a0 : ByteArray) (a1 : ByteArray) (K : ByteArray → ByteArray → Bool → Prop) : Prop :=
 xinternal_stringslite_Index a0 a1 (fun r2 =>
 (if decide (r2 ≥ 0) then
 (if 0 ≤ r2 ∧ r2 ≤ (↑(ByteArray.size a0) : Int) then
 (if (0 :Int) ≤ 0 ∧ 0 ≤ r2 then
 (if 0 ≤ (↑(ByteArray.size a0) : Int) ∧ (↑(ByteArray.size a0) : Int) ≤ (↑(ByteArray.size a0) : Int) then
 (if 0 ≤ w64 (r2 + (↑(ByteArray.size a1) : Int)) ∧ w64 (r2 + (↑(ByteArray.size a1) : Int)) ≤ (↑(ByteArray.size a0) : Int) then
 (lt (ByteArray.extract a0 (Int.toNat (w64 (r2 + (↑(ByteArray.size a1) : Int)))) (Int.toNat (↑(ByteArray.size a0) : Int))) fun v3 =>
 K (ByteArray.extract a0 (0 : Nat) (Int.toNat r2)) v3 true)
 else
 False)
 else
 False)
 else
 False)
 else
 False)
 else
 K a0 (ByteArray.mk #[]) false))
def Xinternal_stringslite_Cut : Tinternal_stringslite_Cut := Yinternal_stringslite_Cut Xinternal_stringslite_Index
def Jinternal_stringslite_Cut (X : Tinternal_stringslite_Cut) : Inst := mkI 208 pL44 .nil pL46 .nil X
def Iinternal_stringslite_Cut : Inst := Jinternal_stringslite_Cut Xinternal_stringslite_Cut
theorem Einternal_stringslite_Cut (xinternal_stringslite_Index : Tinternal_stringslite_Index) : EqF Tryz.prog 23 gives Tryz.f208 [Jinternal_stringslite_Index xinternal_stringslite_Index] [] (Jinternal_stringslite_Cut (Yinternal_stringslite_Cut xinternal_stringslite_Index)) := fun x y K => by kernel_rfl
theorem Iinternal_stringslite_Cut_ok : InstOk Tryz.prog G.1 Iinternal_stringslite_Cut := iok (gives := gives) [] (okCons Iinternal_stringslite_Index_ok okNil) 23 follows Tryz.func208 (by kernel_rfl) (fun x => by kernel_rfl) (Einternal_stringslite_Cut Xinternal_stringslite_Index)
abbrev Tstrings_Cut : Type := ByteArray → ByteArray → (ByteArray → ByteArray → Bool → Prop) → Prop
def Ystrings_Cut (xinternal_stringslite_Cut : Tinternal_stringslite_Cut) (a0 : ByteArray) (a1 : ByteArray) (K : ByteArray → ByteArray → Bool → Prop) : Prop :=
 xinternal_stringslite_Cut a0 a1 (fun r2 r3 r4 =>
 K r2 r3 r4)
def Xstrings_Cut : Tstrings_Cut := Ystrings_Cut Xinternal_stringslite_Cut
def Jstrings_Cut (X : Tstrings_Cut) : Inst := mkI 139 pL44 .nil pL46 .nil X
def Istrings_Cut : Inst := Jstrings_Cut Xstrings_Cut
theorem Estrings_Cut (xinternal_stringslite_Cut : Tinternal_stringslite_Cut) : EqF Tryz.prog 13 gives Tryz.f139 [Jinternal_stringslite_Cut xinternal_stringslite_Cut] [] (Jstrings_Cut (Ystrings_Cut xinternal_stringslite_Cut)) := fun x y K => by kernel_rfl
theorem Istrings_Cut_ok : InstOk Tryz.prog G.1 Istrings_Cut := iok (gives := gives) [] (okCons Iinternal_stringslite_Cut_ok okNil) 13 follows Tryz.func139 (by kernel_rfl) (fun x => by kernel_rfl) (Estrings_Cut Xinternal_stringslite_Cut)
abbrev Tfoot_plain : Type := Int → (Bool → Prop) → Prop
def Yfoot_plain (a0 : Int) (K : Bool → Prop) : Prop :=
 (if decide (a0 ≥ 97) then
 (if decide (a0 ≤ 122) then
 K true
 else
 (if decide (a0 ≥ 65) then
 K (decide (a0 ≤ 90))
 else
 K false))
 else
 (if decide (a0 ≥ 65) then
 K (decide (a0 ≤ 90))
 else
 K false))
def Xfoot_plain : Tfoot_plain := Yfoot_plain
def Jfoot_plain (X : Tfoot_plain) : Inst := mkI 260 pL0 .nil pL1 .nil X
def Ifoot_plain : Inst := Jfoot_plain Xfoot_plain
theorem Efoot_plain : EqF Tryz.prog 17 gives Tryz.f260 [] [] (Jfoot_plain (Yfoot_plain)) := fun x y K => by kernel_rfl
theorem Ifoot_plain_ok : InstOk Tryz.prog G.1 Ifoot_plain := iok (gives := gives) [] okNil 17 follows Tryz.func260 (by kernel_rfl) (fun x => by kernel_rfl) (Efoot_plain)
abbrev Tfoot_reader_name_1 : Type := Int → (Bool → Prop) → Prop
def Yfoot_reader_name_1 (xfoot_plain : Tfoot_plain) (a0 : Int) (K : Bool → Prop) : Prop :=
 xfoot_plain a0 (fun r1 =>
 K !r1)
def Xfoot_reader_name_1 : Tfoot_reader_name_1 := Yfoot_reader_name_1 Xfoot_plain
def Jfoot_reader_name_1 (X : Tfoot_reader_name_1) : Inst := mkI 259 pL0 .nil pL1 .nil X
def Ifoot_reader_name_1 : Inst := Jfoot_reader_name_1 Xfoot_reader_name_1
theorem Efoot_reader_name_1 (xfoot_plain : Tfoot_plain) : EqF Tryz.prog 6 gives Tryz.f259 [Jfoot_plain xfoot_plain] [] (Jfoot_reader_name_1 (Yfoot_reader_name_1 xfoot_plain)) := fun x y K => by kernel_rfl
theorem Ifoot_reader_name_1_ok : InstOk Tryz.prog G.1 Ifoot_reader_name_1 := iok (gives := gives) [] (okCons Ifoot_plain_ok okNil) 6 follows Tryz.func259 (by kernel_rfl) (fun x => by kernel_rfl) (Efoot_reader_name_1 Xfoot_plain)
abbrev Tstrings_indexFunc_1 : Type := ByteArray → Bool → (Int → Prop) → Prop
def Lstrings_indexFunc_1_0 (xfoot_reader_name_1 : Tfoot_reader_name_1) (K : Int → Prop) : (Q2 → Prop) → Q2 → Prop := fun k2 x3 =>
 (if x3.2.1.2 < ByteArray.size x3.2.1.1 then
 xfoot_reader_name_1 (↑(Prod.fst (Go.Utf8.decode x3.2.1.1 x3.2.1.2)) : Int) (fun r4 =>
 (if (r4 == x3.1.2.1) then
 K (↑(x3.2.1.2) : Int)
 else
 k2 ((((), ()), x3.1.2.1, x3.1.2.2.1, (), ()), (x3.2.1.1, x3.2.1.2 + Prod.snd (Go.Utf8.decode x3.2.1.1 x3.2.1.2)), ())))
 else
 K (-1))
def Lstrings_indexFunc_1_0p : Lp := ⟨1094, [.trim 1094], pT47, pH4, 0⟩
def Ystrings_indexFunc_1 (xfoot_reader_name_1 : Tfoot_reader_name_1) (a0 : ByteArray) (a1 : Bool) (K : Int → Prop) : Prop :=
 lp (Lstrings_indexFunc_1_0 xfoot_reader_name_1 K) ((((), ()), a1, 0, (), ()), (a0, (0 : Nat)), ())
def Xstrings_indexFunc_1 : Tstrings_indexFunc_1 := Ystrings_indexFunc_1 Xfoot_reader_name_1
def Jstrings_indexFunc_1 (X : Tstrings_indexFunc_1) : Inst := mkI 275 pL48 .nil pL6 .nil X
def Istrings_indexFunc_1 : Inst := Jstrings_indexFunc_1 Xstrings_indexFunc_1
theorem Estrings_indexFunc_1 (xfoot_reader_name_1 : Tfoot_reader_name_1) : EqF Tryz.prog 21 gives Tryz.f275 [Jfoot_reader_name_1 xfoot_reader_name_1] [Lstrings_indexFunc_1_0p] (Jstrings_indexFunc_1 (Ystrings_indexFunc_1 xfoot_reader_name_1)) := fun x y K => by kernel_rfl
theorem Istrings_indexFunc_1_ok : InstOk Tryz.prog G.1 Istrings_indexFunc_1 := iok (gives := gives) [Lstrings_indexFunc_1_0p] (okCons Ifoot_reader_name_1_ok okNil) 21 follows Tryz.func275 (by kernel_rfl) (fun x => by kernel_rfl) (Estrings_indexFunc_1 Xfoot_reader_name_1)
abbrev Tstrings_IndexFunc_1 : Type := ByteArray → (Int → Prop) → Prop
def Ystrings_IndexFunc_1 (xstrings_indexFunc_1 : Tstrings_indexFunc_1) (a0 : ByteArray) (K : Int → Prop) : Prop :=
 xstrings_indexFunc_1 a0 true (fun r1 =>
 K r1)
def Xstrings_IndexFunc_1 : Tstrings_IndexFunc_1 := Ystrings_IndexFunc_1 Xstrings_indexFunc_1
def Jstrings_IndexFunc_1 (X : Tstrings_IndexFunc_1) : Inst := mkI 247 pL49 .nil pL6 .nil X
def Istrings_IndexFunc_1 : Inst := Jstrings_IndexFunc_1 Xstrings_IndexFunc_1
theorem Estrings_IndexFunc_1 (xstrings_indexFunc_1 : Tstrings_indexFunc_1) : EqF Tryz.prog 8 gives Tryz.f247 [Jstrings_indexFunc_1 xstrings_indexFunc_1] [] (Jstrings_IndexFunc_1 (Ystrings_IndexFunc_1 xstrings_indexFunc_1)) := fun x y K => by kernel_rfl
theorem Istrings_IndexFunc_1_ok : InstOk Tryz.prog G.1 Istrings_IndexFunc_1 := iok (gives := gives) [] (okCons Istrings_indexFunc_1_ok okNil) 8 follows Tryz.func247 (by kernel_rfl) (fun x => by kernel_rfl) (Estrings_IndexFunc_1 Xstrings_indexFunc_1)
abbrev Tfoot_reader_name : Type := ByteArray → Int → Bool → ByteArray → Int → Bool → ByteArray → Bool → Int → Int → Int → Int → Int → Int → Int → Int → Int → Int → (ByteArray → Bool → ByteArray → Int → Bool → ByteArray → Int → Bool → ByteArray → Bool → Int → Int → Int → Int → Int → Int → Int → Int → Int → Int → Prop) → Prop
def Yfoot_reader_name (xstrings_CutPrefix : Tstrings_CutPrefix) (xstrings_Cut : Tstrings_Cut) (xabbr_Right : Tabbr_Right) (xstrings_IndexFunc_1 : Tstrings_IndexFunc_1) (a0 : ByteArray) (a1 : Int) (a2 : Bool) (a3 : ByteArray) (a4 : Int) (a5 : Bool) (a6 : ByteArray) (a7 : Bool) (a8 : Int) (a9 : Int) (a10 : Int) (a11 : Int) (a12 : Int) (a13 : Int) (a14 : Int) (a15 : Int) (a16 : Int) (a17 : Int) (K : ByteArray → Bool → ByteArray → Int → Bool → ByteArray → Int → Bool → ByteArray → Bool → Int → Int → Int → Int → Int → Int → Int → Int → Int → Int → Prop) : Prop :=
 xstrings_CutPrefix a0 (ByteArray.mk #[(60 : UInt8)]) (fun r18 r19 =>
 (if r19 then
 xstrings_Cut r18 (ByteArray.mk #[(62 : UInt8)]) (fun r20 r21 r22 =>
 (if r22 then
 xabbr_Right r20 (fun r23 =>
 K r20 r23 r21 a1 a2 a3 a4 a5 a6 a7 a8 a9 a10 a11 a12 a13 a14 a15 a16 a17)
 else
 K r20 false r21 a1 a2 a3 a4 a5 a6 a7 a8 a9 a10 a11 a12 a13 a14 a15 a16 a17))
 else
 xstrings_IndexFunc_1 a0 (fun r24 =>
 (if decide (r24 < 0) then
 (if 0 ≤ (↑(ByteArray.size a0) : Int) ∧ (↑(ByteArray.size a0) : Int) ≤ (↑(ByteArray.size a0) : Int) then
 (if 0 ≤ (↑(ByteArray.size a0) : Int) ∧ (↑(ByteArray.size a0) : Int) ≤ (↑(ByteArray.size a0) : Int) then
 (if 0 ≤ (↑(ByteArray.size a0) : Int) ∧ (↑(ByteArray.size a0) : Int) ≤ (↑(ByteArray.size a0) : Int) then
 xabbr_Right (ByteArray.extract a0 (0 : Nat) (Int.toNat (↑(ByteArray.size a0) : Int))) (fun r25 =>
 K (ByteArray.extract a0 (0 : Nat) (Int.toNat (↑(ByteArray.size a0) : Int))) r25 (ByteArray.extract a0 (Int.toNat (↑(ByteArray.size a0) : Int)) (Int.toNat (↑(ByteArray.size a0) : Int))) a1 a2 a3 a4 a5 a6 a7 a8 a9 a10 a11 a12 a13 a14 a15 a16 a17)
 else
 False)
 else
 False)
 else
 False)
 else
 (if 0 ≤ r24 ∧ r24 ≤ (↑(ByteArray.size a0) : Int) then
 (if (0 :Int) ≤ 0 ∧ 0 ≤ r24 then
 (if 0 ≤ (↑(ByteArray.size a0) : Int) ∧ (↑(ByteArray.size a0) : Int) ≤ (↑(ByteArray.size a0) : Int) then
 (if 0 ≤ r24 ∧ r24 ≤ (↑(ByteArray.size a0) : Int) then
 xabbr_Right (ByteArray.extract a0 (0 : Nat) (Int.toNat r24)) (fun r26 =>
 K (ByteArray.extract a0 (0 : Nat) (Int.toNat r24)) r26 (ByteArray.extract a0 (Int.toNat r24) (Int.toNat (↑(ByteArray.size a0) : Int))) a1 a2 a3 a4 a5 a6 a7 a8 a9 a10 a11 a12 a13 a14 a15 a16 a17)
 else
 False)
 else
 False)
 else
 False)
 else
 False)))))
def Xfoot_reader_name : Tfoot_reader_name := Yfoot_reader_name Xstrings_CutPrefix Xstrings_Cut Xabbr_Right Xstrings_IndexFunc_1
def Jfoot_reader_name (X : Tfoot_reader_name) : Inst := mkI 229 pL50 pH51 pL45 pH51 X
def Ifoot_reader_name : Inst := Jfoot_reader_name Xfoot_reader_name
theorem Efoot_reader_name (xstrings_CutPrefix : Tstrings_CutPrefix) (xstrings_Cut : Tstrings_Cut) (xabbr_Right : Tabbr_Right) (xstrings_IndexFunc_1 : Tstrings_IndexFunc_1) : EqF Tryz.prog 61 gives Tryz.f229 [Jstrings_CutPrefix xstrings_CutPrefix, Jstrings_Cut xstrings_Cut, Jabbr_Right xabbr_Right, Jstrings_IndexFunc_1 xstrings_IndexFunc_1] [] (Jfoot_reader_name (Yfoot_reader_name xstrings_CutPrefix xstrings_Cut xabbr_Right xstrings_IndexFunc_1)) := fun x y K => by kernel_rfl
theorem Ifoot_reader_name_ok : InstOk Tryz.prog G.1 Ifoot_reader_name := iok (gives := gives) [] (okCons Istrings_CutPrefix_ok (okCons Istrings_Cut_ok (okCons Iabbr_Right_ok (okCons Istrings_IndexFunc_1_ok okNil)))) 61 follows Tryz.func229 (by kernel_rfl) (fun x => by kernel_rfl) (Efoot_reader_name Xstrings_CutPrefix Xstrings_Cut Xabbr_Right Xstrings_IndexFunc_1)
abbrev Tinternal_stringslite_TrimPrefix : Type := ByteArray → ByteArray → (ByteArray → Prop) → Prop
def Yinternal_stringslite_TrimPrefix (xinternal_stringslite_HasPrefix : Tinternal_stringslite_HasPrefix) (a0 : ByteArray) (a1 : ByteArray) (K : ByteArray → Prop) : Prop :=
 xinternal_stringslite_HasPrefix a0 a1 (fun r2 =>
 (if r2 then
 (if 0 ≤ (↑(ByteArray.size a0) : Int) ∧ (↑(ByteArray.size a0) : Int) ≤ (↑(ByteArray.size a0) : Int) then
 (if 0 ≤ (↑(ByteArray.size a1) : Int) ∧ (↑(ByteArray.size a1) : Int) ≤ (↑(ByteArray.size a0) : Int) then
 K (ByteArray.extract a0 (Int.toNat (↑(ByteArray.size a1) : Int)) (Int.toNat (↑(ByteArray.size a0) : Int)))
 else
 False)
 else
 False)
 else
 K a0))
def Xinternal_stringslite_TrimPrefix : Tinternal_stringslite_TrimPrefix := Yinternal_stringslite_TrimPrefix Xinternal_stringslite_HasPrefix
def Jinternal_stringslite_TrimPrefix (X : Tinternal_stringslite_TrimPrefix) : Inst := mkI 283 pL44 .nil pL8 .nil X
def Iinternal_stringslite_TrimPrefix : Inst := Jinternal_stringslite_TrimPrefix Xinternal_stringslite_TrimPrefix
theorem Einternal_stringslite_TrimPrefix (xinternal_stringslite_HasPrefix : Tinternal_stringslite_HasPrefix) : EqF Tryz.prog 13 gives Tryz.f283 [Jinternal_stringslite_HasPrefix xinternal_stringslite_HasPrefix] [] (Jinternal_stringslite_TrimPrefix (Yinternal_stringslite_TrimPrefix xinternal_stringslite_HasPrefix)) := fun x y K => by kernel_rfl
theorem Iinternal_stringslite_TrimPrefix_ok : InstOk Tryz.prog G.1 Iinternal_stringslite_TrimPrefix := iok (gives := gives) [] (okCons Iinternal_stringslite_HasPrefix_ok okNil) 13 follows Tryz.func283 (by kernel_rfl) (fun x => by kernel_rfl) (Einternal_stringslite_TrimPrefix Xinternal_stringslite_HasPrefix)
abbrev Tstrings_TrimPrefix : Type := ByteArray → ByteArray → (ByteArray → Prop) → Prop
def Ystrings_TrimPrefix (xinternal_stringslite_TrimPrefix : Tinternal_stringslite_TrimPrefix) (a0 : ByteArray) (a1 : ByteArray) (K : ByteArray → Prop) : Prop :=
 xinternal_stringslite_TrimPrefix a0 a1 (fun r2 =>
 K r2)
def Xstrings_TrimPrefix : Tstrings_TrimPrefix := Ystrings_TrimPrefix Xinternal_stringslite_TrimPrefix
def Jstrings_TrimPrefix (X : Tstrings_TrimPrefix) : Inst := mkI 261 pL44 .nil pL8 .nil X
def Istrings_TrimPrefix : Inst := Jstrings_TrimPrefix Xstrings_TrimPrefix
theorem Estrings_TrimPrefix (xinternal_stringslite_TrimPrefix : Tinternal_stringslite_TrimPrefix) : EqF Tryz.prog 8 gives Tryz.f261 [Jinternal_stringslite_TrimPrefix xinternal_stringslite_TrimPrefix] [] (Jstrings_TrimPrefix (Ystrings_TrimPrefix xinternal_stringslite_TrimPrefix)) := fun x y K => by kernel_rfl
theorem Istrings_TrimPrefix_ok : InstOk Tryz.prog G.1 Istrings_TrimPrefix := iok (gives := gives) [] (okCons Iinternal_stringslite_TrimPrefix_ok okNil) 8 follows Tryz.func261 (by kernel_rfl) (fun x => by kernel_rfl) (Estrings_TrimPrefix Xinternal_stringslite_TrimPrefix)
abbrev Trule_digits : Type := ByteArray → (Int → Prop) → Prop
def Lrule_digits_0 (K : Int → Prop) : (Q52 → Prop) → Q52 → Prop := fun k1 x2 =>
 (if x2.2.1.2 < ByteArray.size x2.2.1.1 then
 (if decide ((↑(Prod.fst (Go.Utf8.decode x2.2.1.1 x2.2.1.2)) : Int) < 48) then
 K (↑(x2.2.1.2) : Int)
 else
 (if decide ((↑(Prod.fst (Go.Utf8.decode x2.2.1.1 x2.2.1.2)) : Int) > 57) then
 K (↑(x2.2.1.2) : Int)
 else
 k1 ((x2.1.1, x2.1.2.1, (), ()), (x2.2.1.1, x2.2.1.2 + Prod.snd (Go.Utf8.decode x2.2.1.1 x2.2.1.2)), ())))
 else
 K (↑(ByteArray.size x2.1.1) : Int))
def Lrule_digits_0p : Lp := ⟨69, [.trim 69], pT53, pH54, 0⟩
def Yrule_digits (a0 : ByteArray) (K : Int → Prop) : Prop :=
 lp (Lrule_digits_0 K) ((a0, 0, (), ()), (a0, (0 : Nat)), ())
def Xrule_digits : Trule_digits := Yrule_digits
def Jrule_digits (X : Trule_digits) : Inst := mkI 262 pL8 .nil pL6 .nil X
def Irule_digits : Inst := Jrule_digits Xrule_digits
theorem Erule_digits : EqF Tryz.prog 20 gives Tryz.f262 [] [Lrule_digits_0p] (Jrule_digits (Yrule_digits)) := fun x y K => by kernel_rfl
theorem Irule_digits_ok : InstOk Tryz.prog G.1 Irule_digits := iok (gives := gives) [Lrule_digits_0p] okNil 20 follows Tryz.func262 (by kernel_rfl) (fun x => by kernel_rfl) (Erule_digits)
abbrev Trule_sixty : Type := ByteArray → (Int → ByteArray → Bool → Prop) → Prop
def Yrule_sixty (xrule_digits : Trule_digits) (xatoi : Tatoi) (a0 : ByteArray) (K : Int → ByteArray → Bool → Prop) : Prop :=
 (if decide ((↑(ByteArray.size a0) : Int) < 3) then
 K 0 a0 false
 else
 (if (0 :Int) ≤ 0 ∧ 0 < (↑(ByteArray.size a0) : Int) then
 (if (Eng.bAt a0 (0 : Nat) != 58) then
 K 0 a0 false
 else
 (if 0 ≤ (↑(ByteArray.size a0) : Int) ∧ (↑(ByteArray.size a0) : Int) ≤ (↑(ByteArray.size a0) : Int) then
 (if (0 :Int) ≤ 1 ∧ 1 ≤ (↑(ByteArray.size a0) : Int) then
 xrule_digits (ByteArray.extract a0 (1 : Nat) (Int.toNat (↑(ByteArray.size a0) : Int))) (fun r1 =>
 (if decide (r1 < 2) then
 K 0 a0 false
 else
 (if (0 :Int) ≤ 1 ∧ 1 < (↑(ByteArray.size a0) : Int) then
 (if decide (Eng.bAt a0 (1 : Nat) > 53) then
 K 0 a0 false
 else
 (if (0 :Int) ≤ 3 ∧ 3 ≤ (↑(ByteArray.size a0) : Int) then
 xatoi (ByteArray.extract a0 (1 : Nat) (3 : Nat)) (fun r2 r3 =>
 (if 0 ≤ (↑(ByteArray.size a0) : Int) ∧ (↑(ByteArray.size a0) : Int) ≤ (↑(ByteArray.size a0) : Int) then
 (if (0 :Int) ≤ 3 ∧ 3 ≤ (↑(ByteArray.size a0) : Int) then
 K r2 (ByteArray.extract a0 (3 : Nat) (Int.toNat (↑(ByteArray.size a0) : Int))) true
 else
 False)
 else
 False))
 else
 False))
 else
 False)))
 else
 False)
 else
 False))
 else
 False))
def Xrule_sixty : Trule_sixty := Yrule_sixty Xrule_digits Xatoi
def Jrule_sixty (X : Trule_sixty) : Inst := mkI 264 pL8 .nil pL55 .nil X
def Irule_sixty : Inst := Jrule_sixty Xrule_sixty
theorem Erule_sixty (xrule_digits : Trule_digits) (xatoi : Tatoi) : EqF Tryz.prog 34 gives Tryz.f264 [Jrule_digits xrule_digits, Jatoi xatoi] [] (Jrule_sixty (Yrule_sixty xrule_digits xatoi)) := fun x y K => by kernel_rfl
theorem Irule_sixty_ok : InstOk Tryz.prog G.1 Irule_sixty := iok (gives := gives) [] (okCons Irule_digits_ok (okCons Iatoi_ok okNil)) 34 follows Tryz.func264 (by kernel_rfl) (fun x => by kernel_rfl) (Erule_sixty Xrule_digits Xatoi)
abbrev Trule_more : Type := ByteArray → Bool → (Int → ByteArray → Bool → Prop) → Prop
def Yrule_more (xrule_sixty : Trule_sixty) (a0 : ByteArray) (a1 : Bool) (K : Int → ByteArray → Bool → Prop) : Prop :=
 (if (!a1) then
 K 0 a0 false
 else
 xrule_sixty a0 (fun r2 r3 r4 =>
 K r2 r3 r4))
def Xrule_more : Trule_more := Yrule_more Xrule_sixty
def Jrule_more (X : Trule_more) : Inst := mkI 265 pL45 .nil pL55 .nil X
def Irule_more : Inst := Jrule_more Xrule_more
theorem Erule_more (xrule_sixty : Trule_sixty) : EqF Tryz.prog 15 gives Tryz.f265 [Jrule_sixty xrule_sixty] [] (Jrule_more (Yrule_more xrule_sixty)) := fun x y K => by kernel_rfl
theorem Irule_more_ok : InstOk Tryz.prog G.1 Irule_more := iok (gives := gives) [] (okCons Irule_sixty_ok okNil) 15 follows Tryz.func265 (by kernel_rfl) (fun x => by kernel_rfl) (Erule_more Xrule_sixty)
abbrev Trule_Time : Type := ByteArray → (Int → ByteArray → Bool → Prop) → Prop
def Yrule_Time (xstrings_TrimPrefix : Tstrings_TrimPrefix) (xrule_digits : Trule_digits) (xatoi : Tatoi) (xrule_sixty : Trule_sixty) (xrule_more : Trule_more) (a0 : ByteArray) (K : Int → ByteArray → Bool → Prop) : Prop :=
 xstrings_TrimPrefix a0 (ByteArray.mk #[(45 : UInt8)]) (fun r1 =>
 (if ((↑(ByteArray.size r1) : Int) == (↑(ByteArray.size a0) : Int)) then
 xstrings_TrimPrefix a0 (ByteArray.mk #[(43 : UInt8)]) (fun r2 =>
 xrule_digits r2 (fun r3 =>
 (if ((if 3 < r3 then 3 else r3) == 0) then
 K 0 a0 false
 else
 (if (0 ≤ if 3 < r3 then 3 else r3) ∧ (if 3 < r3 then 3 else r3) ≤ (↑(ByteArray.size r2) : Int) then
 (if (0 :Int) ≤ 0 ∧ 0 ≤ if 3 < r3 then 3 else r3 then
 xatoi (ByteArray.extract r2 (0 : Nat) (Int.toNat (if 3 < r3 then 3 else r3))) (fun r4 r5 =>
 (if decide (r4 > 167) then
 (if 0 ≤ (↑(ByteArray.size r2) : Int) ∧ (↑(ByteArray.size r2) : Int) ≤ (↑(ByteArray.size r2) : Int) then
 (if 0 ≤ w64 ((if 3 < r3 then 3 else r3) - 1) ∧ w64 ((if 3 < r3 then 3 else r3) - 1) ≤ (↑(ByteArray.size r2) : Int) then
 (lt (ByteArray.extract r2 (Int.toNat (w64 ((if 3 < r3 then 3 else r3) - 1))) (Int.toNat (↑(ByteArray.size r2) : Int))) fun v6 =>
 xrule_sixty v6 (fun r7 r8 r9 =>
 xrule_more r8 r9 (fun r10 r11 r12 =>
 (lt (w64 (w64 (Int.tdiv r4 10) * 3600)) fun v13 =>
 (lt (w64 (v13 + w64 (r7 * 60))) fun v14 =>
 (lt (w64 (1 * w64 (v14 + r10))) fun v15 =>
 K v15 r11 true))))))
 else
 False)
 else
 False)
 else
 (if 0 ≤ (↑(ByteArray.size r2) : Int) ∧ (↑(ByteArray.size r2) : Int) ≤ (↑(ByteArray.size r2) : Int) then
 (if (0 ≤ if 3 < r3 then 3 else r3) ∧ (if 3 < r3 then 3 else r3) ≤ (↑(ByteArray.size r2) : Int) then
 xrule_sixty (ByteArray.extract r2 (Int.toNat (if 3 < r3 then 3 else r3)) (Int.toNat (↑(ByteArray.size r2) : Int))) (fun r16 r17 r18 =>
 xrule_more r17 r18 (fun r19 r20 r21 =>
 (lt (w64 (w64 (r4 * 3600) + w64 (r16 * 60))) fun v22 =>
 (lt (w64 (1 * w64 (v22 + r19))) fun v23 =>
 K v23 r20 true))))
 else
 False)
 else
 False)))
 else
 False)
 else
 False))))
 else
 xrule_digits r1 (fun r24 =>
 (if ((if 3 < r24 then 3 else r24) == 0) then
 K 0 a0 false
 else
 (if (0 ≤ if 3 < r24 then 3 else r24) ∧ (if 3 < r24 then 3 else r24) ≤ (↑(ByteArray.size r1) : Int) then
 (if (0 :Int) ≤ 0 ∧ 0 ≤ if 3 < r24 then 3 else r24 then
 xatoi (ByteArray.extract r1 (0 : Nat) (Int.toNat (if 3 < r24 then 3 else r24))) (fun r25 r26 =>
 (if decide (r25 > 167) then
 (if 0 ≤ (↑(ByteArray.size r1) : Int) ∧ (↑(ByteArray.size r1) : Int) ≤ (↑(ByteArray.size r1) : Int) then
 (if 0 ≤ w64 ((if 3 < r24 then 3 else r24) - 1) ∧ w64 ((if 3 < r24 then 3 else r24) - 1) ≤ (↑(ByteArray.size r1) : Int) then
 (lt (ByteArray.extract r1 (Int.toNat (w64 ((if 3 < r24 then 3 else r24) - 1))) (Int.toNat (↑(ByteArray.size r1) : Int))) fun v27 =>
 xrule_sixty v27 (fun r28 r29 r30 =>
 xrule_more r29 r30 (fun r31 r32 r33 =>
 (lt (w64 (w64 (Int.tdiv r25 10) * 3600)) fun v34 =>
 (lt (w64 (v34 + w64 (r28 * 60))) fun v35 =>
 (lt (w64 ((-1) * w64 (v35 + r31))) fun v36 =>
 K v36 r32 true))))))
 else
 False)
 else
 False)
 else
 (if 0 ≤ (↑(ByteArray.size r1) : Int) ∧ (↑(ByteArray.size r1) : Int) ≤ (↑(ByteArray.size r1) : Int) then
 (if (0 ≤ if 3 < r24 then 3 else r24) ∧ (if 3 < r24 then 3 else r24) ≤ (↑(ByteArray.size r1) : Int) then
 xrule_sixty (ByteArray.extract r1 (Int.toNat (if 3 < r24 then 3 else r24)) (Int.toNat (↑(ByteArray.size r1) : Int))) (fun r37 r38 r39 =>
 xrule_more r38 r39 (fun r40 r41 r42 =>
 (lt (w64 (w64 (r25 * 3600) + w64 (r37 * 60))) fun v43 =>
 (lt (w64 ((-1) * w64 (v43 + r40))) fun v44 =>
 K v44 r41 true))))
 else
 False)
 else
 False)))
 else
 False)
 else
 False)))))
def Xrule_Time : Trule_Time := Yrule_Time Xstrings_TrimPrefix Xrule_digits Xatoi Xrule_sixty Xrule_more
def Jrule_Time (X : Trule_Time) : Inst := mkI 230 pL8 .nil pL55 .nil X
def Irule_Time : Inst := Jrule_Time Xrule_Time
theorem Erule_Time (xstrings_TrimPrefix : Tstrings_TrimPrefix) (xrule_digits : Trule_digits) (xatoi : Tatoi) (xrule_sixty : Trule_sixty) (xrule_more : Trule_more) : EqF Tryz.prog 68 gives Tryz.f230 [Jstrings_TrimPrefix xstrings_TrimPrefix, Jrule_digits xrule_digits, Jatoi xatoi, Jrule_sixty xrule_sixty, Jrule_more xrule_more] [] (Jrule_Time (Yrule_Time xstrings_TrimPrefix xrule_digits xatoi xrule_sixty xrule_more)) := fun x y K => by kernel_rfl
theorem Irule_Time_ok : InstOk Tryz.prog G.1 Irule_Time := iok (gives := gives) [] (okCons Istrings_TrimPrefix_ok (okCons Irule_digits_ok (okCons Iatoi_ok (okCons Irule_sixty_ok (okCons Irule_more_ok okNil))))) 68 follows Tryz.func230 (by kernel_rfl) (fun x => by kernel_rfl) (Erule_Time Xstrings_TrimPrefix Xrule_digits Xatoi Xrule_sixty Xrule_more)
abbrev Tfoot_reader_usual : Type := ByteArray → Int → Bool → ByteArray → Int → Bool → ByteArray → Bool → Int → Int → Int → Int → Int → Int → Int → Int → Int → Int → (Bool → ByteArray → Int → Bool → ByteArray → Int → Bool → ByteArray → Bool → Int → Int → Int → Int → Int → Int → Int → Int → Int → Int → Prop) → Prop
def Yfoot_reader_usual (xfoot_reader_name : Tfoot_reader_name) (xrule_Time : Trule_Time) (a0 : ByteArray) (a1 : Int) (a2 : Bool) (a3 : ByteArray) (a4 : Int) (a5 : Bool) (a6 : ByteArray) (a7 : Bool) (a8 : Int) (a9 : Int) (a10 : Int) (a11 : Int) (a12 : Int) (a13 : Int) (a14 : Int) (a15 : Int) (a16 : Int) (a17 : Int) (K : Bool → ByteArray → Int → Bool → ByteArray → Int → Bool → ByteArray → Bool → Int → Int → Int → Int → Int → Int → Int → Int → Int → Int → Prop) : Prop :=
 xfoot_reader_name a0 a1 a2 a3 a4 a5 a6 a7 a8 a9 a10 a11 a12 a13 a14 a15 a16 a17 (fun r18 r19 r20 r21 r22 r23 r24 r25 r26 r27 r28 r29 r30 r31 r32 r33 r34 r35 r36 r37 =>
 xrule_Time r20 (fun r38 r39 r40 =>
 (if r19 then
 K r40 r39 (w64 (0 - r38)) false r18 r24 r25 r26 r27 r28 r29 r30 r31 r32 r33 r34 r35 r36 r37
 else
 K false r39 (w64 (0 - r38)) false r18 r24 r25 r26 r27 r28 r29 r30 r31 r32 r33 r34 r35 r36 r37)))
def Xfoot_reader_usual : Tfoot_reader_usual := Yfoot_reader_usual Xfoot_reader_name Xrule_Time
def Jfoot_reader_usual (X : Tfoot_reader_usual) : Inst := mkI 179 pL50 pH51 pL1 pH51 X
def Ifoot_reader_usual : Inst := Jfoot_reader_usual Xfoot_reader_usual
theorem Efoot_reader_usual (xfoot_reader_name : Tfoot_reader_name) (xrule_Time : Trule_Time) : EqF Tryz.prog 38 gives Tryz.f179 [Jfoot_reader_name xfoot_reader_name, Jrule_Time xrule_Time] [] (Jfoot_reader_usual (Yfoot_reader_usual xfoot_reader_name xrule_Time)) := fun x y K => by kernel_rfl
theorem Ifoot_reader_usual_ok : InstOk Tryz.prog G.1 Ifoot_reader_usual := iok (gives := gives) [] (okCons Ifoot_reader_name_ok (okCons Irule_Time_ok okNil)) 38 follows Tryz.func179 (by kernel_rfl) (fun x => by kernel_rfl) (Efoot_reader_usual Xfoot_reader_name Xrule_Time)
abbrev Tfoot_kind : Type := Q32 → Bool → (Bool → Prop) → Prop
def Yfoot_kind (xabbr_Right : Tabbr_Right) (a0 : Q32) (a1 : Bool) (K : Bool → Prop) : Prop :=
 xabbr_Right a0.2.2.1 (fun r2 =>
 (if r2 then
 (if (a0.2.1 == a1) then
 (if decide (a0.1 ≥ (-89999)) then
 K (decide (a0.1 ≤ 89999))
 else
 K false)
 else
 K false)
 else
 K false))
def Xfoot_kind : Tfoot_kind := Yfoot_kind Xabbr_Right
def Jfoot_kind (X : Tfoot_kind) : Inst := mkI 232 pL56 .nil pL1 .nil X
def Ifoot_kind : Inst := Jfoot_kind Xfoot_kind
theorem Efoot_kind (xabbr_Right : Tabbr_Right) : EqF Tryz.prog 24 gives Tryz.f232 [Jabbr_Right xabbr_Right] [] (Jfoot_kind (Yfoot_kind xabbr_Right)) := fun x y K => by kernel_rfl
theorem Ifoot_kind_ok : InstOk Tryz.prog G.1 Ifoot_kind := iok (gives := gives) [] (okCons Iabbr_Right_ok okNil) 24 follows Tryz.func232 (by kernel_rfl) (fun x => by kernel_rfl) (Efoot_kind Xabbr_Right)
abbrev Trule_within : Type := Int → Int → Int → (Bool → Prop) → Prop
def Yrule_within (a0 : Int) (a1 : Int) (a2 : Int) (K : Bool → Prop) : Prop :=
 (if decide (a0 ≥ a1) then
 K (decide (a0 ≤ a2))
 else
 K false)
def Xrule_within : Trule_within := Yrule_within
def Jrule_within (X : Trule_within) : Inst := mkI 267 pL20 .nil pL1 .nil X
def Irule_within : Inst := Jrule_within Xrule_within
theorem Erule_within : EqF Tryz.prog 15 gives Tryz.f267 [] [] (Jrule_within (Yrule_within)) := fun x y K => by kernel_rfl
theorem Irule_within_ok : InstOk Tryz.prog G.1 Irule_within := iok (gives := gives) [] okNil 15 follows Tryz.func267 (by kernel_rfl) (fun x => by kernel_rfl) (Erule_within)
abbrev Trule_Right : Type := Q57 → (Bool → Prop) → Prop
def Yrule_Right (xrule_within : Trule_within) (a0 : Q57) (K : Bool → Prop) : Prop :=
 xrule_within a0.2.2.2.2.1 (-604799) 604799 (fun r1 =>
 (if (a0.1 == 0) then
 (if r1 then
 xrule_within a0.2.1 1 12 (fun r2 =>
 (if r2 then
 xrule_within a0.2.2.1 1 5 (fun r3 =>
 (if r3 then
 xrule_within a0.2.2.2.1 0 6 (fun r4 =>
 K r4)
 else
 K false))
 else
 K false))
 else
 K false)
 else
 (if (a0.1 == 1) then
 (if r1 then
 (if decide (a0.2.1 > 0) then
 xrule_within a0.2.1 0 365 (fun r5 =>
 (if r5 then
 (if (a0.2.2.1 == 0) then
 K (a0.2.2.2.1 == 0)
 else
 K false)
 else
 K false))
 else
 K false)
 else
 K false)
 else
 (if (a0.1 == 2) then
 (if r1 then
 xrule_within a0.2.1 0 365 (fun r6 =>
 (if r6 then
 (if (a0.2.2.1 == 0) then
 K (a0.2.2.2.1 == 0)
 else
 K false)
 else
 K false))
 else
 K false)
 else
 K false))))
def Xrule_Right : Trule_Right := Yrule_Right Xrule_within
def Jrule_Right (X : Trule_Right) : Inst := mkI 233 pL58 .nil pL1 .nil X
def Irule_Right : Inst := Jrule_Right Xrule_Right
theorem Erule_Right (xrule_within : Trule_within) : EqF Tryz.prog 53 gives Tryz.f233 [Jrule_within xrule_within] [] (Jrule_Right (Yrule_Right xrule_within)) := fun x y K => by kernel_rfl
theorem Irule_Right_ok : InstOk Tryz.prog G.1 Irule_Right := iok (gives := gives) [] (okCons Irule_within_ok okNil) 53 follows Tryz.func233 (by kernel_rfl) (fun x => by kernel_rfl) (Erule_Right Xrule_within)
abbrev Tfoot_Right : Type := Q59 → (Bool → Prop) → Prop
def Yfoot_Right (xfoot_kind : Tfoot_kind) (xrule_Right : Trule_Right) (a0 : Q59) (K : Bool → Prop) : Prop :=
 xfoot_kind (a0.1, a0.2.1, a0.2.2.1, ()) false (fun r1 =>
 (if (!r1) then
 K false
 else
 (if a0.2.2.2.2.2.2.1 then
 xfoot_kind (a0.2.2.2.1, a0.2.2.2.2.1, a0.2.2.2.2.2.1, ()) true (fun r2 =>
 (if r2 then
 xrule_Right (a0.2.2.2.2.2.2.2.1, a0.2.2.2.2.2.2.2.2.1, a0.2.2.2.2.2.2.2.2.2.1, a0.2.2.2.2.2.2.2.2.2.2.1, a0.2.2.2.2.2.2.2.2.2.2.2.1, ()) (fun r3 =>
 (if r3 then
 xrule_Right a0.2.2.2.2.2.2.2.2.2.2.2.2 (fun r4 =>
 K r4)
 else
 K false))
 else
 K false))
 else
 (lt (a0.1 == a0.1 && (a0.2.1 == a0.2.1 && (ByteArray.toList a0.2.2.1 == ByteArray.toList a0.2.2.1 && true)) && (a0.2.2.2.1 == 0 && (a0.2.2.2.2.1 == false && (ByteArray.toList a0.2.2.2.2.2.1 == ByteArray.toList (ByteArray.mk #[]) && true)) && (a0.2.2.2.2.2.2.1 == false && (a0.2.2.2.2.2.2.2.1 == 0 && (a0.2.2.2.2.2.2.2.2.1 == 0 && (a0.2.2.2.2.2.2.2.2.2.1 == 0 && (a0.2.2.2.2.2.2.2.2.2.2.1 == 0 && (a0.2.2.2.2.2.2.2.2.2.2.2.1 == 0 && true)))) && (a0.2.2.2.2.2.2.2.2.2.2.2.2.1 == 0 && (a0.2.2.2.2.2.2.2.2.2.2.2.2.2.1 == 0 && (a0.2.2.2.2.2.2.2.2.2.2.2.2.2.2.1 == 0 && (a0.2.2.2.2.2.2.2.2.2.2.2.2.2.2.2.1 == 0 && (a0.2.2.2.2.2.2.2.2.2.2.2.2.2.2.2.2.1 == 0 && true)))) && true))))) fun v5 =>
 K v5))))
def Xfoot_Right : Tfoot_Right := Yfoot_Right Xfoot_kind Xrule_Right
def Jfoot_Right (X : Tfoot_Right) : Inst := mkI 183 pL60 .nil pL1 .nil X
def Ifoot_Right : Inst := Jfoot_Right Xfoot_Right
theorem Efoot_Right (xfoot_kind : Tfoot_kind) (xrule_Right : Trule_Right) : EqF Tryz.prog 27 gives Tryz.f183 [Jfoot_kind xfoot_kind, Jrule_Right xrule_Right] [] (Jfoot_Right (Yfoot_Right xfoot_kind xrule_Right)) := fun x y K => by kernel_rfl
theorem Ifoot_Right_ok : InstOk Tryz.prog G.1 Ifoot_Right := iok (gives := gives) [] (okCons Ifoot_kind_ok (okCons Irule_Right_ok okNil)) 27 follows Tryz.func183 (by kernel_rfl) (fun x => by kernel_rfl) (Efoot_Right Xfoot_kind Xrule_Right)
abbrev Tfoot_reader_summer : Type := ByteArray → Int → Bool → ByteArray → Int → Bool → ByteArray → Bool → Int → Int → Int → Int → Int → Int → Int → Int → Int → Int → (Bool → ByteArray → Int → Bool → ByteArray → Int → Bool → ByteArray → Bool → Int → Int → Int → Int → Int → Int → Int → Int → Int → Int → Prop) → Prop
def Yfoot_reader_summer (xfoot_reader_name : Tfoot_reader_name) (xrule_Time : Trule_Time) (a0 : ByteArray) (a1 : Int) (a2 : Bool) (a3 : ByteArray) (a4 : Int) (a5 : Bool) (a6 : ByteArray) (a7 : Bool) (a8 : Int) (a9 : Int) (a10 : Int) (a11 : Int) (a12 : Int) (a13 : Int) (a14 : Int) (a15 : Int) (a16 : Int) (a17 : Int) (K : Bool → ByteArray → Int → Bool → ByteArray → Int → Bool → ByteArray → Bool → Int → Int → Int → Int → Int → Int → Int → Int → Int → Int → Prop) : Prop :=
 xfoot_reader_name a0 a1 a2 a3 a4 a5 a6 a7 a8 a9 a10 a11 a12 a13 a14 a15 a16 a17 (fun r18 r19 r20 r21 r22 r23 r24 r25 r26 r27 r28 r29 r30 r31 r32 r33 r34 r35 r36 r37 =>
 xrule_Time r20 (fun r38 r39 r40 =>
 (if r40 then
 K r19 r39 r21 r22 r23 (w64 (0 - r38)) true r18 true r28 r29 r30 r31 r32 r33 r34 r35 r36 r37
 else
 K r19 r20 r21 r22 r23 (w64 (r21 + 3600)) true r18 true r28 r29 r30 r31 r32 r33 r34 r35 r36 r37)))
def Xfoot_reader_summer : Tfoot_reader_summer := Yfoot_reader_summer Xfoot_reader_name Xrule_Time
def Jfoot_reader_summer (X : Tfoot_reader_summer) : Inst := mkI 180 pL50 pH51 pL1 pH51 X
def Ifoot_reader_summer : Inst := Jfoot_reader_summer Xfoot_reader_summer
theorem Efoot_reader_summer (xfoot_reader_name : Tfoot_reader_name) (xrule_Time : Trule_Time) : EqF Tryz.prog 50 gives Tryz.f180 [Jfoot_reader_name xfoot_reader_name, Jrule_Time xrule_Time] [] (Jfoot_reader_summer (Yfoot_reader_summer xfoot_reader_name xrule_Time)) := fun x y K => by kernel_rfl
theorem Ifoot_reader_summer_ok : InstOk Tryz.prog G.1 Ifoot_reader_summer := iok (gives := gives) [] (okCons Ifoot_reader_name_ok (okCons Irule_Time_ok okNil)) 50 follows Tryz.func180 (by kernel_rfl) (fun x => by kernel_rfl) (Efoot_reader_summer Xfoot_reader_name Xrule_Time)
abbrev Trule_number : Type := ByteArray → Int → (Int → ByteArray → Bool → Prop) → Prop
def Yrule_number (xrule_digits : Trule_digits) (xatoi : Tatoi) (a0 : ByteArray) (a1 : Int) (K : Int → ByteArray → Bool → Prop) : Prop :=
 xrule_digits a0 (fun r2 =>
 (if (r2 == 0) then
 K 0 a0 false
 else
 (if decide (r2 > a1) then
 K 0 a0 false
 else
 (if 0 ≤ r2 ∧ r2 ≤ (↑(ByteArray.size a0) : Int) then
 (if (0 :Int) ≤ 0 ∧ 0 ≤ r2 then
 xatoi (ByteArray.extract a0 (0 : Nat) (Int.toNat r2)) (fun r3 r4 =>
 (if 0 ≤ (↑(ByteArray.size a0) : Int) ∧ (↑(ByteArray.size a0) : Int) ≤ (↑(ByteArray.size a0) : Int) then
 (if 0 ≤ r2 ∧ r2 ≤ (↑(ByteArray.size a0) : Int) then
 K r3 (ByteArray.extract a0 (Int.toNat r2) (Int.toNat (↑(ByteArray.size a0) : Int))) true
 else
 False)
 else
 False))
 else
 False)
 else
 False))))
def Xrule_number : Trule_number := Yrule_number Xrule_digits Xatoi
def Jrule_number (X : Trule_number) : Inst := mkI 305 pL61 .nil pL55 .nil X
def Irule_number : Inst := Jrule_number Xrule_number
theorem Erule_number (xrule_digits : Trule_digits) (xatoi : Tatoi) : EqF Tryz.prog 29 gives Tryz.f305 [Jrule_digits xrule_digits, Jatoi xatoi] [] (Jrule_number (Yrule_number xrule_digits xatoi)) := fun x y K => by kernel_rfl
theorem Irule_number_ok : InstOk Tryz.prog G.1 Irule_number := iok (gives := gives) [] (okCons Irule_digits_ok (okCons Iatoi_ok okNil)) 29 follows Tryz.func305 (by kernel_rfl) (fun x => by kernel_rfl) (Erule_number Xrule_digits Xatoi)
abbrev Trule_week : Type := ByteArray → (Q57 → ByteArray → Bool → Prop) → Prop
def Yrule_week (xrule_number : Trule_number) (xstrings_CutPrefix : Tstrings_CutPrefix) (a0 : ByteArray) (K : Q57 → ByteArray → Bool → Prop) : Prop :=
 xrule_number a0 2 (fun r1 r2 r3 =>
 xstrings_CutPrefix r2 (ByteArray.mk #[(46 : UInt8)]) (fun r4 r5 =>
 xrule_number r4 1 (fun r6 r7 r8 =>
 xstrings_CutPrefix r7 (ByteArray.mk #[(46 : UInt8)]) (fun r9 r10 =>
 xrule_number r9 1 (fun r11 r12 r13 =>
 (if r3 then
 (if r8 then
 (if r13 then
 (if r5 then
 K (0, r1, r6, r11, 0, ()) r12 r10
 else
 K (0, r1, r6, r11, 0, ()) r12 false)
 else
 K (0, r1, r6, r11, 0, ()) r12 false)
 else
 K (0, r1, r6, r11, 0, ()) r12 false)
 else
 K (0, r1, r6, r11, 0, ()) r12 false))))))
def Xrule_week : Trule_week := Yrule_week Xrule_number Xstrings_CutPrefix
def Jrule_week (X : Trule_week) : Inst := mkI 304 pL8 .nil pL62 .nil X
def Irule_week : Inst := Jrule_week Xrule_week
theorem Erule_week (xrule_number : Trule_number) (xstrings_CutPrefix : Tstrings_CutPrefix) : EqF Tryz.prog 63 gives Tryz.f304 [Jrule_number xrule_number, Jstrings_CutPrefix xstrings_CutPrefix] [] (Jrule_week (Yrule_week xrule_number xstrings_CutPrefix)) := fun x y K => by kernel_rfl
theorem Irule_week_ok : InstOk Tryz.prog G.1 Irule_week := iok (gives := gives) [] (okCons Irule_number_ok (okCons Istrings_CutPrefix_ok okNil)) 63 follows Tryz.func304 (by kernel_rfl) (fun x => by kernel_rfl) (Erule_week Xrule_number Xstrings_CutPrefix)
abbrev Trule_date : Type := ByteArray → (Q57 → ByteArray → Bool → Prop) → Prop
def Yrule_date (xstrings_CutPrefix : Tstrings_CutPrefix) (xrule_week : Trule_week) (xrule_number : Trule_number) (a0 : ByteArray) (K : Q57 → ByteArray → Bool → Prop) : Prop :=
 xstrings_CutPrefix a0 (ByteArray.mk #[(77 : UInt8)]) (fun r1 r2 =>
 (if r2 then
 xrule_week r1 (fun r3 r4 r5 =>
 K r3 r4 r5)
 else
 xstrings_CutPrefix a0 (ByteArray.mk #[(74 : UInt8)]) (fun r6 r7 =>
 (if r7 then
 xrule_number r6 3 (fun r8 r9 r10 =>
 K (1, r8, 0, 0, 0, ()) r9 r10)
 else
 xrule_number r6 3 (fun r11 r12 r13 =>
 K (2, r11, 0, 0, 0, ()) r12 r13)))))
def Xrule_date : Trule_date := Yrule_date Xstrings_CutPrefix Xrule_week Xrule_number
def Jrule_date (X : Trule_date) : Inst := mkI 286 pL8 .nil pL62 .nil X
def Irule_date : Inst := Jrule_date Xrule_date
theorem Erule_date (xstrings_CutPrefix : Tstrings_CutPrefix) (xrule_week : Trule_week) (xrule_number : Trule_number) : EqF Tryz.prog 38 gives Tryz.f286 [Jstrings_CutPrefix xstrings_CutPrefix, Jrule_week xrule_week, Jrule_number xrule_number] [] (Jrule_date (Yrule_date xstrings_CutPrefix xrule_week xrule_number)) := fun x y K => by kernel_rfl
theorem Irule_date_ok : InstOk Tryz.prog G.1 Irule_date := iok (gives := gives) [] (okCons Istrings_CutPrefix_ok (okCons Irule_week_ok (okCons Irule_number_ok okNil))) 38 follows Tryz.func286 (by kernel_rfl) (fun x => by kernel_rfl) (Erule_date Xstrings_CutPrefix Xrule_week Xrule_number)
abbrev Trule_Parse : Type := ByteArray → (Q57 → ByteArray → Bool → Prop) → Prop
def Yrule_Parse (xrule_date : Trule_date) (xstrings_CutPrefix : Tstrings_CutPrefix) (xrule_Time : Trule_Time) (xrule_Right : Trule_Right) (a0 : ByteArray) (K : Q57 → ByteArray → Bool → Prop) : Prop :=
 xrule_date a0 (fun r1 r2 r3 =>
 xstrings_CutPrefix r2 (ByteArray.mk #[(47 : UInt8)]) (fun r4 r5 =>
 (if r3 then
 (if r5 then
 xrule_Time r4 (fun r6 r7 r8 =>
 (if (!r8) then
 K (0, 0, 0, 0, 0, ()) a0 false
 else
 xrule_Right (r1.1, r1.2.1, r1.2.2.1, r1.2.2.2.1, r6, ()) (fun r9 =>
 (if (!r9) then
 K (0, 0, 0, 0, 0, ()) a0 false
 else
 K (r1.1, r1.2.1, r1.2.2.1, r1.2.2.2.1, r6, ()) r7 true))))
 else
 (if (!r3) then
 K (0, 0, 0, 0, 0, ()) a0 false
 else
 xrule_Right (r1.1, r1.2.1, r1.2.2.1, r1.2.2.2.1, 7200, ()) (fun r10 =>
 (if (!r10) then
 K (0, 0, 0, 0, 0, ()) a0 false
 else
 K (r1.1, r1.2.1, r1.2.2.1, r1.2.2.2.1, 7200, ()) r2 true))))
 else
 (if (!r3) then
 K (0, 0, 0, 0, 0, ()) a0 false
 else
 xrule_Right (r1.1, r1.2.1, r1.2.2.1, r1.2.2.2.1, 7200, ()) (fun r11 =>
 (if (!r11) then
 K (0, 0, 0, 0, 0, ()) a0 false
 else
 K (r1.1, r1.2.1, r1.2.2.1, r1.2.2.2.1, 7200, ()) r2 true))))))
def Xrule_Parse : Trule_Parse := Yrule_Parse Xrule_date Xstrings_CutPrefix Xrule_Time Xrule_Right
def Jrule_Parse (X : Trule_Parse) : Inst := mkI 266 pL8 .nil pL62 .nil X
def Irule_Parse : Inst := Jrule_Parse Xrule_Parse
theorem Erule_Parse (xrule_date : Trule_date) (xstrings_CutPrefix : Tstrings_CutPrefix) (xrule_Time : Trule_Time) (xrule_Right : Trule_Right) : EqF Tryz.prog 44 gives Tryz.f266 [Jrule_date xrule_date, Jstrings_CutPrefix xstrings_CutPrefix, Jrule_Time xrule_Time, Jrule_Right xrule_Right] [] (Jrule_Parse (Yrule_Parse xrule_date xstrings_CutPrefix xrule_Time xrule_Right)) := fun x y K => by kernel_rfl
theorem Irule_Parse_ok : InstOk Tryz.prog G.1 Irule_Parse := iok (gives := gives) [] (okCons Irule_date_ok (okCons Istrings_CutPrefix_ok (okCons Irule_Time_ok (okCons Irule_Right_ok okNil)))) 44 follows Tryz.func266 (by kernel_rfl) (fun x => by kernel_rfl) (Erule_Parse Xrule_date Xstrings_CutPrefix Xrule_Time Xrule_Right)
abbrev Tfoot_reader_rule : Type := ByteArray → Int → Bool → ByteArray → Int → Bool → ByteArray → Bool → Int → Int → Int → Int → Int → Int → Int → Int → Int → Int → (Bool → ByteArray → Int → Bool → ByteArray → Int → Bool → ByteArray → Bool → Int → Int → Int → Int → Int → Int → Int → Int → Int → Int → Prop) → Prop
def Yfoot_reader_rule (xstrings_CutPrefix : Tstrings_CutPrefix) (xrule_Parse : Trule_Parse) (a0 : ByteArray) (a1 : Int) (a2 : Bool) (a3 : ByteArray) (a4 : Int) (a5 : Bool) (a6 : ByteArray) (a7 : Bool) (a8 : Int) (a9 : Int) (a10 : Int) (a11 : Int) (a12 : Int) (a13 : Int) (a14 : Int) (a15 : Int) (a16 : Int) (a17 : Int) (K : Bool → ByteArray → Int → Bool → ByteArray → Int → Bool → ByteArray → Bool → Int → Int → Int → Int → Int → Int → Int → Int → Int → Int → Prop) : Prop :=
 xstrings_CutPrefix a0 (ByteArray.mk #[(44 : UInt8)]) (fun r18 r19 =>
 xrule_Parse r18 (fun r20 r21 r22 =>
 (if r22 then
 K r19 r21 a1 a2 a3 a4 a5 a6 a7 r20.1 r20.2.1 r20.2.2.1 r20.2.2.2.1 r20.2.2.2.2.1 a13 a14 a15 a16 a17
 else
 K false r21 a1 a2 a3 a4 a5 a6 a7 r20.1 r20.2.1 r20.2.2.1 r20.2.2.2.1 r20.2.2.2.2.1 a13 a14 a15 a16 a17)))
def Xfoot_reader_rule : Tfoot_reader_rule := Yfoot_reader_rule Xstrings_CutPrefix Xrule_Parse
def Jfoot_reader_rule (X : Tfoot_reader_rule) : Inst := mkI 231 pL63 pH51 pL1 pH51 X
def Ifoot_reader_rule : Inst := Jfoot_reader_rule Xfoot_reader_rule
theorem Efoot_reader_rule (xstrings_CutPrefix : Tstrings_CutPrefix) (xrule_Parse : Trule_Parse) : EqF Tryz.prog 30 gives Tryz.f231 [Jstrings_CutPrefix xstrings_CutPrefix, Jrule_Parse xrule_Parse] [] (Jfoot_reader_rule (Yfoot_reader_rule xstrings_CutPrefix xrule_Parse)) := fun x y K => by kernel_rfl
theorem Ifoot_reader_rule_ok : InstOk Tryz.prog G.1 Ifoot_reader_rule := iok (gives := gives) [] (okCons Istrings_CutPrefix_ok (okCons Irule_Parse_ok okNil)) 30 follows Tryz.func231 (by kernel_rfl) (fun x => by kernel_rfl) (Efoot_reader_rule Xstrings_CutPrefix Xrule_Parse)
abbrev Tfoot_reader_from : Type := ByteArray → Int → Bool → ByteArray → Int → Bool → ByteArray → Bool → Int → Int → Int → Int → Int → Int → Int → Int → Int → Int → (Bool → ByteArray → Int → Bool → ByteArray → Int → Bool → ByteArray → Bool → Int → Int → Int → Int → Int → Int → Int → Int → Int → Int → Prop) → Prop
def Yfoot_reader_from (xfoot_reader_rule : Tfoot_reader_rule) (a0 : ByteArray) (a1 : Int) (a2 : Bool) (a3 : ByteArray) (a4 : Int) (a5 : Bool) (a6 : ByteArray) (a7 : Bool) (a8 : Int) (a9 : Int) (a10 : Int) (a11 : Int) (a12 : Int) (a13 : Int) (a14 : Int) (a15 : Int) (a16 : Int) (a17 : Int) (K : Bool → ByteArray → Int → Bool → ByteArray → Int → Bool → ByteArray → Bool → Int → Int → Int → Int → Int → Int → Int → Int → Int → Int → Prop) : Prop :=
 xfoot_reader_rule a0 a1 a2 a3 a4 a5 a6 a7 a8 a9 a10 a11 a12 a13 a14 a15 a16 a17 (fun r18 r19 r20 r21 r22 r23 r24 r25 r26 r27 r28 r29 r30 r31 r32 r33 r34 r35 r36 =>
 K r18 r19 r20 r21 r22 r23 r24 r25 r26 r27 r28 r29 r30 r31 r32 r33 r34 r35 r36)
def Xfoot_reader_from : Tfoot_reader_from := Yfoot_reader_from Xfoot_reader_rule
def Jfoot_reader_from (X : Tfoot_reader_from) : Inst := mkI 181 pL50 pH51 pL1 pH51 X
def Ifoot_reader_from : Inst := Jfoot_reader_from Xfoot_reader_from
theorem Efoot_reader_from (xfoot_reader_rule : Tfoot_reader_rule) : EqF Tryz.prog 9 gives Tryz.f181 [Jfoot_reader_rule xfoot_reader_rule] [] (Jfoot_reader_from (Yfoot_reader_from xfoot_reader_rule)) := fun x y K => by kernel_rfl
theorem Ifoot_reader_from_ok : InstOk Tryz.prog G.1 Ifoot_reader_from := iok (gives := gives) [] (okCons Ifoot_reader_rule_ok okNil) 9 follows Tryz.func181 (by kernel_rfl) (fun x => by kernel_rfl) (Efoot_reader_from Xfoot_reader_rule)
abbrev Tfoot_reader_rule_1 : Type := ByteArray → Int → Bool → ByteArray → Int → Bool → ByteArray → Bool → Int → Int → Int → Int → Int → Int → Int → Int → Int → Int → (Bool → ByteArray → Int → Bool → ByteArray → Int → Bool → ByteArray → Bool → Int → Int → Int → Int → Int → Int → Int → Int → Int → Int → Prop) → Prop
def Yfoot_reader_rule_1 (xstrings_CutPrefix : Tstrings_CutPrefix) (xrule_Parse : Trule_Parse) (a0 : ByteArray) (a1 : Int) (a2 : Bool) (a3 : ByteArray) (a4 : Int) (a5 : Bool) (a6 : ByteArray) (a7 : Bool) (a8 : Int) (a9 : Int) (a10 : Int) (a11 : Int) (a12 : Int) (a13 : Int) (a14 : Int) (a15 : Int) (a16 : Int) (a17 : Int) (K : Bool → ByteArray → Int → Bool → ByteArray → Int → Bool → ByteArray → Bool → Int → Int → Int → Int → Int → Int → Int → Int → Int → Int → Prop) : Prop :=
 xstrings_CutPrefix a0 (ByteArray.mk #[(44 : UInt8)]) (fun r18 r19 =>
 xrule_Parse r18 (fun r20 r21 r22 =>
 (if r22 then
 K r19 r21 a1 a2 a3 a4 a5 a6 a7 a8 a9 a10 a11 a12 r20.1 r20.2.1 r20.2.2.1 r20.2.2.2.1 r20.2.2.2.2.1
 else
 K false r21 a1 a2 a3 a4 a5 a6 a7 a8 a9 a10 a11 a12 r20.1 r20.2.1 r20.2.2.1 r20.2.2.2.1 r20.2.2.2.2.1)))
def Xfoot_reader_rule_1 : Tfoot_reader_rule_1 := Yfoot_reader_rule_1 Xstrings_CutPrefix Xrule_Parse
def Jfoot_reader_rule_1 (X : Tfoot_reader_rule_1) : Inst := mkI 231 pL64 pH51 pL1 pH51 X
def Ifoot_reader_rule_1 : Inst := Jfoot_reader_rule_1 Xfoot_reader_rule_1
theorem Efoot_reader_rule_1 (xstrings_CutPrefix : Tstrings_CutPrefix) (xrule_Parse : Trule_Parse) : EqF Tryz.prog 30 gives Tryz.f231 [Jstrings_CutPrefix xstrings_CutPrefix, Jrule_Parse xrule_Parse] [] (Jfoot_reader_rule_1 (Yfoot_reader_rule_1 xstrings_CutPrefix xrule_Parse)) := fun x y K => by kernel_rfl
theorem Ifoot_reader_rule_1_ok : InstOk Tryz.prog G.1 Ifoot_reader_rule_1 := iok (gives := gives) [] (okCons Istrings_CutPrefix_ok (okCons Irule_Parse_ok okNil)) 30 follows Tryz.func231 (by kernel_rfl) (fun x => by kernel_rfl) (Efoot_reader_rule_1 Xstrings_CutPrefix Xrule_Parse)
abbrev Tfoot_reader_to : Type := ByteArray → Int → Bool → ByteArray → Int → Bool → ByteArray → Bool → Int → Int → Int → Int → Int → Int → Int → Int → Int → Int → (Bool → ByteArray → Int → Bool → ByteArray → Int → Bool → ByteArray → Bool → Int → Int → Int → Int → Int → Int → Int → Int → Int → Int → Prop) → Prop
def Yfoot_reader_to (xfoot_reader_rule_1 : Tfoot_reader_rule_1) (a0 : ByteArray) (a1 : Int) (a2 : Bool) (a3 : ByteArray) (a4 : Int) (a5 : Bool) (a6 : ByteArray) (a7 : Bool) (a8 : Int) (a9 : Int) (a10 : Int) (a11 : Int) (a12 : Int) (a13 : Int) (a14 : Int) (a15 : Int) (a16 : Int) (a17 : Int) (K : Bool → ByteArray → Int → Bool → ByteArray → Int → Bool → ByteArray → Bool → Int → Int → Int → Int → Int → Int → Int → Int → Int → Int → Prop) : Prop :=
 xfoot_reader_rule_1 a0 a1 a2 a3 a4 a5 a6 a7 a8 a9 a10 a11 a12 a13 a14 a15 a16 a17 (fun r18 r19 r20 r21 r22 r23 r24 r25 r26 r27 r28 r29 r30 r31 r32 r33 r34 r35 r36 =>
 K r18 r19 r20 r21 r22 r23 r24 r25 r26 r27 r28 r29 r30 r31 r32 r33 r34 r35 r36)
def Xfoot_reader_to : Tfoot_reader_to := Yfoot_reader_to Xfoot_reader_rule_1
def Jfoot_reader_to (X : Tfoot_reader_to) : Inst := mkI 182 pL50 pH51 pL1 pH51 X
def Ifoot_reader_to : Inst := Jfoot_reader_to Xfoot_reader_to
theorem Efoot_reader_to (xfoot_reader_rule_1 : Tfoot_reader_rule_1) : EqF Tryz.prog 9 gives Tryz.f182 [Jfoot_reader_rule_1 xfoot_reader_rule_1] [] (Jfoot_reader_to (Yfoot_reader_to xfoot_reader_rule_1)) := fun x y K => by kernel_rfl
theorem Ifoot_reader_to_ok : InstOk Tryz.prog G.1 Ifoot_reader_to := iok (gives := gives) [] (okCons Ifoot_reader_rule_1_ok okNil) 9 follows Tryz.func182 (by kernel_rfl) (fun x => by kernel_rfl) (Efoot_reader_to Xfoot_reader_rule_1)
abbrev Tfoot_Parse : Type := ByteArray → (Q59 → Bool → Prop) → Prop
def Lfoot_Parse_0p : Lp := ⟨1835036, [], .nil, .nil, 12⟩
def Yfoot_Parse (xfoot_reader_usual : Tfoot_reader_usual) (xfoot_Right : Tfoot_Right) (xfoot_reader_summer : Tfoot_reader_summer) (xfoot_reader_from : Tfoot_reader_from) (xfoot_reader_to : Tfoot_reader_to) (a0 : ByteArray) (K : Q59 → Bool → Prop) : Prop :=
 xfoot_reader_usual a0 0 false (ByteArray.mk #[]) 0 false (ByteArray.mk #[]) false 0 0 0 0 0 0 0 0 0 0 (fun r1 r2 r3 r4 r5 r6 r7 r8 r9 r10 r11 r12 r13 r14 r15 r16 r17 r18 r19 =>
 (if (!r1) then
 K (0, false, ByteArray.mk #[], 0, false, ByteArray.mk #[], false, 0, 0, 0, 0, 0, 0, 0, 0, 0, 0, ()) false
 else
 (if (ByteArray.toList r2 == ByteArray.toList (ByteArray.mk #[])) then
 (if (!ByteArray.toList r2 == ByteArray.toList (ByteArray.mk #[])) then
 K (0, false, ByteArray.mk #[], 0, false, ByteArray.mk #[], false, 0, 0, 0, 0, 0, 0, 0, 0, 0, 0, ()) false
 else
 xfoot_Right (r3, r4, r5, r6, r7, r8, r9, r10, r11, r12, r13, r14, r15, r16, r17, r18, r19, ()) (fun r20 =>
 (if (!r20) then
 K (0, false, ByteArray.mk #[], 0, false, ByteArray.mk #[], false, 0, 0, 0, 0, 0, 0, 0, 0, 0, 0, ()) false
 else
 K (r3, r4, r5, r6, r7, r8, r9, r10, r11, r12, r13, r14, r15, r16, r17, r18, r19, ()) true)))
 else
 xfoot_reader_summer r2 r3 r4 r5 r6 r7 r8 r9 r10 r11 r12 r13 r14 r15 r16 r17 r18 r19 (fun r21 r22 r23 r24 r25 r26 r27 r28 r29 r30 r31 r32 r33 r34 r35 r36 r37 r38 r39 =>
 (if (!r21) then
 K (0, false, ByteArray.mk #[], 0, false, ByteArray.mk #[], false, 0, 0, 0, 0, 0, 0, 0, 0, 0, 0, ()) false
 else
 xfoot_reader_from r22 r23 r24 r25 r26 r27 r28 r29 r30 r31 r32 r33 r34 r35 r36 r37 r38 r39 (fun r40 r41 r42 r43 r44 r45 r46 r47 r48 r49 r50 r51 r52 r53 r54 r55 r56 r57 r58 =>
 (if (!r40) then
 K (0, false, ByteArray.mk #[], 0, false, ByteArray.mk #[], false, 0, 0, 0, 0, 0, 0, 0, 0, 0, 0, ()) false
 else
 xfoot_reader_to r41 r42 r43 r44 r45 r46 r47 r48 r49 r50 r51 r52 r53 r54 r55 r56 r57 r58 (fun r59 r60 r61 r62 r63 r64 r65 r66 r67 r68 r69 r70 r71 r72 r73 r74 r75 r76 r77 =>
 (if (!r59) then
 K (0, false, ByteArray.mk #[], 0, false, ByteArray.mk #[], false, 0, 0, 0, 0, 0, 0, 0, 0, 0, 0, ()) false
 else
 (if (!ByteArray.toList r60 == ByteArray.toList (ByteArray.mk #[])) then
 K (0, false, ByteArray.mk #[], 0, false, ByteArray.mk #[], false, 0, 0, 0, 0, 0, 0, 0, 0, 0, 0, ()) false
 else
 xfoot_Right (r61, r62, r63, r64, r65, r66, r67, r68, r69, r70, r71, r72, r73, r74, r75, r76, r77, ()) (fun r78 =>
 (if (!r78) then
 K (0, false, ByteArray.mk #[], 0, false, ByteArray.mk #[], false, 0, 0, 0, 0, 0, 0, 0, 0, 0, 0, ()) false
 else
 K (r61, r62, r63, r64, r65, r66, r67, r68, r69, r70, r71, r72, r73, r74, r75, r76, r77, ()) true))))))))))))
def Xfoot_Parse : Tfoot_Parse := Yfoot_Parse Xfoot_reader_usual Xfoot_Right Xfoot_reader_summer Xfoot_reader_from Xfoot_reader_to
def Jfoot_Parse (X : Tfoot_Parse) : Inst := mkI 106 pL8 .nil pL65 .nil X
def Ifoot_Parse : Inst := Jfoot_Parse Xfoot_Parse
theorem Efoot_Parse (xfoot_reader_usual : Tfoot_reader_usual) (xfoot_Right : Tfoot_Right) (xfoot_reader_summer : Tfoot_reader_summer) (xfoot_reader_from : Tfoot_reader_from) (xfoot_reader_to : Tfoot_reader_to) : EqF Tryz.prog 57 gives Tryz.f106 [Jfoot_reader_usual xfoot_reader_usual, Jfoot_Right xfoot_Right, Jfoot_reader_summer xfoot_reader_summer, Jfoot_reader_from xfoot_reader_from, Jfoot_reader_to xfoot_reader_to] [Lfoot_Parse_0p] (Jfoot_Parse (Yfoot_Parse xfoot_reader_usual xfoot_Right xfoot_reader_summer xfoot_reader_from xfoot_reader_to)) := fun x y K => by kernel_rfl
theorem Ifoot_Parse_ok : InstOk Tryz.prog G.1 Ifoot_Parse := iok (gives := gives) [Lfoot_Parse_0p] (okCons Ifoot_reader_usual_ok (okCons Ifoot_Right_ok (okCons Ifoot_reader_summer_ok (okCons Ifoot_reader_from_ok (okCons Ifoot_reader_to_ok okNil))))) 57 follows Tryz.func106 (by kernel_rfl) (fun x => by kernel_rfl) (Efoot_Parse Xfoot_reader_usual Xfoot_Right Xfoot_reader_summer Xfoot_reader_from Xfoot_reader_to)
abbrev Tzone_odd : Type := Q57 → (Bool → Prop) → Prop
def Yzone_odd (a0 : Q57) (K : Bool → Prop) : Prop :=
 (if decide (a0.2.2.2.2.1 < 0) then
 K true
 else
 K (decide (a0.2.2.2.2.1 > 86400)))
def Xzone_odd : Tzone_odd := Yzone_odd
def Jzone_odd (X : Tzone_odd) : Inst := mkI 178 pL58 .nil pL1 .nil X
def Izone_odd : Inst := Jzone_odd Xzone_odd
theorem Ezone_odd : EqF Tryz.prog 11 gives Tryz.f178 [] [] (Jzone_odd (Yzone_odd)) := fun x y K => by kernel_rfl
theorem Izone_odd_ok : InstOk Tryz.prog G.1 Izone_odd := iok (gives := gives) [] okNil 11 follows Tryz.func178 (by kernel_rfl) (fun x => by kernel_rfl) (Ezone_odd)
abbrev Tzone_ends : Type := Q15 → (Bool → Prop) → Prop
def Yzone_ends (xfoot_Parse : Tfoot_Parse) (xzone_odd : Tzone_odd) (a0 : Q15) (K : Bool → Prop) : Prop :=
 (if (ByteArray.toList a0.2.2.2.1 == ByteArray.toList (ByteArray.mk #[])) then
 K true
 else
 xfoot_Parse a0.2.2.2.1 (fun r1 r2 =>
 xzone_odd (r1.2.2.2.2.2.2.2.1, r1.2.2.2.2.2.2.2.2.1, r1.2.2.2.2.2.2.2.2.2.1, r1.2.2.2.2.2.2.2.2.2.2.1, r1.2.2.2.2.2.2.2.2.2.2.2.1, ()) (fun r3 =>
 (if r3 then
 (if r2 then
 K (decide (a0.2.2.2.2.1 ≥ 3))
 else
 K false)
 else
 xzone_odd r1.2.2.2.2.2.2.2.2.2.2.2.2 (fun r4 =>
 (if r4 then
 (if r2 then
 K (decide (a0.2.2.2.2.1 ≥ 3))
 else
 K false)
 else
 (if r2 then
 K (decide (a0.2.2.2.2.1 ≥ 2))
 else
 K false)))))))
def Xzone_ends : Tzone_ends := Yzone_ends Xfoot_Parse Xzone_odd
def Jzone_ends (X : Tzone_ends) : Inst := mkI 105 pL19 .nil pL1 .nil X
def Izone_ends : Inst := Jzone_ends Xzone_ends
theorem Ezone_ends (xfoot_Parse : Tfoot_Parse) (xzone_odd : Tzone_odd) : EqF Tryz.prog 32 gives Tryz.f105 [Jfoot_Parse xfoot_Parse, Jzone_odd xzone_odd] [] (Jzone_ends (Yzone_ends xfoot_Parse xzone_odd)) := fun x y K => by kernel_rfl
theorem Izone_ends_ok : InstOk Tryz.prog G.1 Izone_ends := iok (gives := gives) [] (okCons Ifoot_Parse_ok (okCons Izone_odd_ok okNil)) 32 follows Tryz.func105 (by kernel_rfl) (fun x => by kernel_rfl) (Ezone_ends Xfoot_Parse Xzone_odd)
abbrev Tzone_Right : Type := Q15 → (Bool → Prop) → Prop
def Yzone_Right (xblock_Count : Tblock_Count) (xrecord_Right : Trecord_Right) (xrecord_Expiry : Trecord_Expiry) (xzone_all_api_Type_ : Tzone_all_api_Type_) (xzone_all_api_Trans_ : Tzone_all_api_Trans_) (xzone_ends : Tzone_ends) (a0 : Q15) (K : Bool → Prop) : Prop :=
 xblock_Count a0 (fun r1 r2 =>
 (if (!r2) then
 K false
 else
 xrecord_Right a0.2.2.1 (fun r3 =>
 (if (!r3) then
 K false
 else
 xrecord_Expiry a0.2.2.1 (fun r4 r5 =>
 (if r5 then
 (if decide (a0.2.2.2.2.1 < 4) then
 K false
 else
 xzone_all_api_Type_ a0.1 (fun r6 =>
 xzone_all_api_Trans_ a0.2.1 a0.1 a0.2.1 a0.2.2.1 a0.2.2.2.1 a0.2.2.2.2.1 (fun r7 r8 r9 r10 r11 r12 r13 r14 r15 r16 r17 r18 =>
 (if r6 then
 (if r7 then
 xzone_ends (r10, r13, r16, r8, r9, ()) (fun r19 =>
 K r19)
 else
 K false)
 else
 K false))))
 else
 xzone_all_api_Type_ a0.1 (fun r20 =>
 xzone_all_api_Trans_ a0.2.1 a0.1 a0.2.1 a0.2.2.1 a0.2.2.2.1 a0.2.2.2.2.1 (fun r21 r22 r23 r24 r25 r26 r27 r28 r29 r30 r31 r32 =>
 (if r20 then
 (if r21 then
 xzone_ends (r24, r27, r30, r22, r23, ()) (fun r33 =>
 K r33)
 else
 K false)
 else
 K false)))))))))
def Xzone_Right : Tzone_Right := Yzone_Right Xblock_Count Xrecord_Right Xrecord_Expiry Xzone_all_api_Type_ Xzone_all_api_Trans_ Xzone_ends
def Jzone_Right (X : Tzone_Right) : Inst := mkI 39 pL19 .nil pL1 .nil X
def Izone_Right : Inst := Jzone_Right Xzone_Right
theorem Ezone_Right (xblock_Count : Tblock_Count) (xrecord_Right : Trecord_Right) (xrecord_Expiry : Trecord_Expiry) (xzone_all_api_Type_ : Tzone_all_api_Type_) (xzone_all_api_Trans_ : Tzone_all_api_Trans_) (xzone_ends : Tzone_ends) : EqF Tryz.prog 49 gives Tryz.f39 [Jblock_Count xblock_Count, Jrecord_Right xrecord_Right, Jrecord_Expiry xrecord_Expiry, Jzone_all_api_Type_ xzone_all_api_Type_, Jzone_all_api_Trans_ xzone_all_api_Trans_, Jzone_ends xzone_ends] [] (Jzone_Right (Yzone_Right xblock_Count xrecord_Right xrecord_Expiry xzone_all_api_Type_ xzone_all_api_Trans_ xzone_ends)) := fun x y K => by kernel_rfl
theorem Izone_Right_ok : InstOk Tryz.prog G.1 Izone_Right := iok (gives := gives) [] (okCons Iblock_Count_ok (okCons Irecord_Right_ok (okCons Irecord_Expiry_ok (okCons Izone_all_api_Type__ok (okCons Izone_all_api_Trans__ok (okCons Izone_ends_ok okNil)))))) 49 follows Tryz.func39 (by kernel_rfl) (fun x => by kernel_rfl) (Ezone_Right Xblock_Count Xrecord_Right Xrecord_Expiry Xzone_all_api_Type_ Xzone_all_api_Trans_ Xzone_ends)
abbrev Tright_plain : Type := Q15 → (Bool → Prop) → Prop
def Yright_plain (xzone_Right : Tzone_Right) (a0 : Q15) (K : Bool → Prop) : Prop :=
 (if ((↑(List.length a0.2.2.1) : Int) == 0) then
 xzone_Right a0 (fun r1 =>
 K r1)
 else
 K false)
def Xright_plain : Tright_plain := Yright_plain Xzone_Right
def Jright_plain (X : Tright_plain) : Inst := mkI 79 pL19 .nil pL1 .nil X
def Iright_plain : Inst := Jright_plain Xright_plain
theorem Eright_plain (xzone_Right : Tzone_Right) : EqF Tryz.prog 11 gives Tryz.f79 [Jzone_Right xzone_Right] [] (Jright_plain (Yright_plain xzone_Right)) := fun x y K => by kernel_rfl
theorem Iright_plain_ok : InstOk Tryz.prog G.1 Iright_plain := iok (gives := gives) [] (okCons Izone_Right_ok okNil) 11 follows Tryz.func79 (by kernel_rfl) (fun x => by kernel_rfl) (Eright_plain Xzone_Right)
abbrev Tnum_Div : Type := Int → Int → (Int → Int → Bool → Prop) → Prop
def Ynum_Div (a0 : Int) (a1 : Int) (K : Int → Int → Bool → Prop) : Prop :=
 (if decide (a1 < 1) then
 K 0 0 false
 else
 (if a1 = 0 then
 False
 else
 (if a1 = 0 then
 False
 else
 (if decide (Int.tmod a0 a1 < 0) then
 (lt (w64 (w64 (Int.tdiv a0 a1) - 1)) fun v2 =>
 K v2 (w64 (Int.tmod a0 a1 + a1)) true)
 else
 K (w64 (Int.tdiv a0 a1)) (Int.tmod a0 a1) true))))
def Xnum_Div : Tnum_Div := Ynum_Div
def Jnum_Div (X : Tnum_Div) : Inst := mkI 149 pL24 .nil pL66 .nil X
def Inum_Div : Inst := Jnum_Div Xnum_Div
theorem Enum_Div : EqF Tryz.prog 24 gives Tryz.f149 [] [] (Jnum_Div (Ynum_Div)) := fun x y K => by kernel_rfl
theorem Inum_Div_ok : InstOk Tryz.prog G.1 Inum_Div := iok (gives := gives) [] okNil 24 follows Tryz.func149 (by kernel_rfl) (fun x => by kernel_rfl) (Enum_Div)
abbrev Tday_Date : Type := Int → (Int → Int → Int → Bool → Prop) → Prop
def Yday_Date (xnum_Div : Tnum_Div) (a0 : Int) (K : Int → Int → Int → Bool → Prop) : Prop :=
 (if decide (a0 < (-719162)) then
 K 0 0 0 false
 else
 (if decide (a0 > 2932896) then
 K 0 0 0 false
 else
 xnum_Div (w64 (a0 + 719468)) 146097 (fun r1 r2 r3 =>
 (lt (w64 (r2 - w64 (Int.tdiv r2 1460))) fun v4 =>
 (lt (w64 (v4 + w64 (Int.tdiv r2 36524))) fun v5 =>
 (lt (w64 (v5 - w64 (Int.tdiv r2 146096))) fun v6 =>
 (lt (w64 (365 * w64 (Int.tdiv v6 365))) fun v7 =>
 (lt (w64 (Int.tdiv (w64 (Int.tdiv v6 365)) 4)) fun v8 =>
 (lt (w64 (Int.tdiv (w64 (Int.tdiv v6 365)) 100)) fun v9 =>
 (lt (w64 (w64 (v7 + v8) - v9)) fun v10 =>
 (lt (w64 (5 * w64 (r2 - v10))) fun v11 =>
 (lt (w64 (Int.tdiv (w64 (v11 + 2)) 153)) fun v12 =>
 (lt (w64 (w64 (153 * v12) + 2)) fun v13 =>
 (lt (w64 (w64 (r2 - v10) - w64 (Int.tdiv v13 5))) fun v14 =>
 (if decide (w64 (v12 + 3) > 12) then
 (lt (w64 (w64 (v12 + 3) - 12)) fun v15 =>
 (lt (w64 (w64 (Int.tdiv v6 365) + 1)) fun v16 =>
 (lt (w64 (w64 (400 * r1) + v16)) fun v17 =>
 K v17 v15 (w64 (v14 + 1)) true)))
 else
 (lt (w64 (w64 (400 * r1) + w64 (Int.tdiv v6 365))) fun v18 =>
 K v18 (w64 (v12 + 3)) (w64 (v14 + 1)) true))))))))))))))))
def Xday_Date : Tday_Date := Yday_Date Xnum_Div
def Jday_Date (X : Tday_Date) : Inst := mkI 126 pL6 .nil pL67 .nil X
def Iday_Date : Inst := Jday_Date Xday_Date
theorem Eday_Date (xnum_Div : Tnum_Div) : EqF Tryz.prog 69 gives Tryz.f126 [Jnum_Div xnum_Div] [] (Jday_Date (Yday_Date xnum_Div)) := fun x y K => by kernel_rfl
theorem Iday_Date_ok : InstOk Tryz.prog G.1 Iday_Date := iok (gives := gives) [] (okCons Inum_Div_ok okNil) 69 follows Tryz.func126 (by kernel_rfl) (fun x => by kernel_rfl) (Eday_Date Xnum_Div)
abbrev Tday_Leap : Type := Int → (Bool → Prop) → Prop
def Yday_Leap (a0 : Int) (K : Bool → Prop) : Prop :=
 (if (Int.tmod a0 (4 :Int) == 0) then
 (if (Int.tmod a0 (100 :Int) != 0) then
 K true
 else
 K (Int.tmod a0 (400 :Int) == 0))
 else
 K false)
def Xday_Leap : Tday_Leap := Yday_Leap
def Jday_Leap (X : Tday_Leap) : Inst := mkI 250 pL6 .nil pL1 .nil X
def Iday_Leap : Inst := Jday_Leap Xday_Leap
theorem Eday_Leap : EqF Tryz.prog 16 gives Tryz.f250 [] [] (Jday_Leap (Yday_Leap)) := fun x y K => by kernel_rfl
theorem Iday_Leap_ok : InstOk Tryz.prog G.1 Iday_Leap := iok (gives := gives) [] okNil 16 follows Tryz.func250 (by kernel_rfl) (fun x => by kernel_rfl) (Eday_Leap)
abbrev Tday_Last : Type := Int → Int → (Int → Bool → Prop) → Prop
def Yday_Last (xday_Leap : Tday_Leap) (a0 : Int) (a1 : Int) (K : Int → Bool → Prop) : Prop :=
 (if decide (a0 < 1) then
 K 0 false
 else
 (if decide (a0 > 9999) then
 K 0 false
 else
 (if decide (a1 < 1) then
 K 0 false
 else
 (if decide (a1 > 12) then
 K 0 false
 else
 (if 0 ≤ w64 (a1 - 1) ∧ w64 (a1 - 1) < 12 then
 (Eng.asInt IntKind.i64 ([Eng.V.c (Value.int IntKind.i64 31), Eng.V.c (Value.int IntKind.i64 28), Eng.V.c (Value.int IntKind.i64 31), Eng.V.c (Value.int IntKind.i64 30), Eng.V.c (Value.int IntKind.i64 31), Eng.V.c (Value.int IntKind.i64 30), Eng.V.c (Value.int IntKind.i64 31), Eng.V.c (Value.int IntKind.i64 31), Eng.V.c (Value.int IntKind.i64 30), Eng.V.c (Value.int IntKind.i64 31), Eng.V.c (Value.int IntKind.i64 30), Eng.V.c (Value.int IntKind.i64 31)][Int.toNat (w64 (a1 - 1)) * (1 : Nat)]?) False fun n2 =>
 (if (a1 == 2) then
 xday_Leap a0 (fun r3 =>
 (if r3 then
 K (w64 (n2 + 1)) true
 else
 K n2 true))
 else
 K n2 true))
 else
 False)))))
def Xday_Last : Tday_Last := Yday_Last Xday_Leap
def Jday_Last (X : Tday_Last) : Inst := mkI 209 pL24 .nil pL25 .nil X
def Iday_Last : Inst := Jday_Last Xday_Last
theorem Eday_Last (xday_Leap : Tday_Leap) : EqF Tryz.prog 34 gives Tryz.f209 [Jday_Leap xday_Leap] [] (Jday_Last (Yday_Last xday_Leap)) := fun x y K => by kernel_rfl
theorem Iday_Last_ok : InstOk Tryz.prog G.1 Iday_Last := iok (gives := gives) [] (okCons Iday_Leap_ok okNil) 34 follows Tryz.func209 (by kernel_rfl) (fun x => by kernel_rfl) (Eday_Last Xday_Leap)
abbrev Tday_End : Type := Int → (Bool → Prop) → Prop
def Yday_End (xday_Date : Tday_Date) (xday_Last : Tday_Last) (a0 : Int) (K : Bool → Prop) : Prop :=
 xday_Date a0 (fun r1 r2 r3 r4 =>
 xday_Last r1 r2 (fun r5 r6 =>
 (if r4 then
 K (r3 == r5)
 else
 K false)))
def Xday_End : Tday_End := Yday_End Xday_Date Xday_Last
def Jday_End (X : Tday_End) : Inst := mkI 235 pL6 .nil pL1 .nil X
def Iday_End : Inst := Jday_End Xday_End
theorem Eday_End (xday_Date : Tday_Date) (xday_Last : Tday_Last) : EqF Tryz.prog 28 gives Tryz.f235 [Jday_Date xday_Date, Jday_Last xday_Last] [] (Jday_End (Yday_End xday_Date xday_Last)) := fun x y K => by kernel_rfl
theorem Iday_End_ok : InstOk Tryz.prog G.1 Iday_End := iok (gives := gives) [] (okCons Iday_Date_ok (okCons Iday_Last_ok okNil)) 28 follows Tryz.func235 (by kernel_rfl) (fun x => by kernel_rfl) (Eday_End Xday_Date Xday_Last)
abbrev Tleap_wrong : Type := Int → Q68 → Int → (Int → Prop) → Prop
def Yleap_wrong (xday_End : Tday_End) (a0 : Int) (a1 : Q68) (a2 : Int) (K : Int → Prop) : Prop :=
 (if decide (a0 ≥ 200) then
 K 8
 else
 (if decide (a1.1 < 730) then
 (if decide (a1.1 < 730) then
 K 9
 else
 xday_End a1.1 (fun r3 =>
 (if (!r3) then
 K 5
 else
 (if (a1.2.1 != 1) then
 (if (a1.2.1 != (-1)) then
 K 6
 else
 (if decide (a1.1 ≤ a2) then
 K 4
 else
 K 0))
 else
 (if decide (a1.1 ≤ a2) then
 K 4
 else
 K 0)))))
 else
 (if decide (a1.1 ≥ 2932896) then
 K 9
 else
 xday_End a1.1 (fun r4 =>
 (if (!r4) then
 K 5
 else
 (if (a1.2.1 != 1) then
 (if (a1.2.1 != (-1)) then
 K 6
 else
 (if decide (a1.1 ≤ a2) then
 K 4
 else
 K 0))
 else
 (if decide (a1.1 ≤ a2) then
 K 4
 else
 K 0)))))))
def Xleap_wrong : Tleap_wrong := Yleap_wrong Xday_End
def Jleap_wrong (X : Tleap_wrong) : Inst := mkI 186 pL69 .nil pL6 .nil X
def Ileap_wrong : Inst := Jleap_wrong Xleap_wrong
theorem Eleap_wrong (xday_End : Tday_End) : EqF Tryz.prog 36 gives Tryz.f186 [Jday_End xday_End] [] (Jleap_wrong (Yleap_wrong xday_End)) := fun x y K => by kernel_rfl
theorem Ileap_wrong_ok : InstOk Tryz.prog G.1 Ileap_wrong := iok (gives := gives) [] (okCons Iday_End_ok okNil) 36 follows Tryz.func186 (by kernel_rfl) (fun x => by kernel_rfl) (Eleap_wrong Xday_End)
abbrev Tleap_Check : Type := Q70 → (Int → Int → Prop) → Prop
def Lleap_Check_0 (xleap_wrong : Tleap_wrong) (K : Int → Int → Prop) : (Q71 → Prop) → Q71 → Prop := fun k1 x2 =>
 (if decide (x2.1.2.2.2.2.2.2.1 < x2.1.2.2.2.2.2.1) then
 (if 0 ≤ x2.1.2.2.2.2.2.2.1 ∧ x2.1.2.2.2.2.2.2.1 < (↑(List.length x2.1.2.2.2.2.1) : Int) then
 (Eng.asInt IntKind.i64 (Eng.getC x2.1.2.2.2.2.1 (Int.toNat x2.1.2.2.2.2.2.2.1) (0 : Nat)) False fun n3 =>
 (Eng.asInt IntKind.i64 (Eng.getC x2.1.2.2.2.2.1 (Int.toNat x2.1.2.2.2.2.2.2.1) (1 : Nat)) False fun n4 =>
 (Eng.asBool (Eng.getC x2.1.2.2.2.2.1 (Int.toNat x2.1.2.2.2.2.2.2.1) (2 : Nat)) False fun b5 =>
 xleap_wrong x2.1.2.2.2.2.2.2.1 (n3, n4, b5, ()) x2.1.2.2.2.1 (fun r6 =>
 (if (r6 != 0) then
 K x2.1.2.2.2.2.2.2.1 r6
 else
 k1 (((), x2.1.2.1, x2.1.2.2.1, n3, x2.1.2.2.2.2.1, x2.1.2.2.2.2.2.1, w64 (x2.1.2.2.2.2.2.2.1 + 1), ()), x2.2))))))
 else
 False)
 else
 (if x2.2.1.2.1 then
 (lt (w64 (w64 (x2.1.2.2.2.1 + 1) * 86400)) fun v7 =>
 (if decide (x2.2.1.2.2.1 < if 63072000 > v7 then 63072000 else v7) then
 K (↑(List.length x2.2.1.1) : Int) 9
 else
 (if decide (x2.2.1.2.2.1 > 253402300799) then
 K (↑(List.length x2.2.1.1) : Int) 9
 else
 K (↑(List.length x2.2.1.1) : Int) 0)))
 else
 (if decide (x2.2.1.2.2.1 < 0) then
 K (↑(List.length x2.2.1.1) : Int) 9
 else
 (if decide (x2.2.1.2.2.1 > 0) then
 K (↑(List.length x2.2.1.1) : Int) 9
 else
 K (↑(List.length x2.2.1.1) : Int) 0))))
def Lleap_Check_0p : Lp := ⟨14366, [.trim 14366], pT72, pH73, 0⟩
def Yleap_Check (xleap_wrong : Tleap_wrong) (a0 : Q70) (K : Int → Int → Prop) : Prop :=
 lp (Lleap_Check_0 xleap_wrong K) (((), 0, 0, 729, a0.1, (↑(List.length a0.1) : Int), 0, ()), a0, ())
def Xleap_Check : Tleap_Check := Yleap_Check Xleap_wrong
def Jleap_Check (X : Tleap_Check) : Inst := mkI 108 pL74 .nil pL24 .nil X
def Ileap_Check : Inst := Jleap_Check Xleap_Check
theorem Eleap_Check (xleap_wrong : Tleap_wrong) : EqF Tryz.prog 51 gives Tryz.f108 [Jleap_wrong xleap_wrong] [Lleap_Check_0p] (Jleap_Check (Yleap_Check xleap_wrong)) := fun x y K => by kernel_rfl
theorem Ileap_Check_ok : InstOk Tryz.prog G.1 Ileap_Check := iok (gives := gives) [Lleap_Check_0p] (okCons Ileap_wrong_ok okNil) 51 follows Tryz.func108 (by kernel_rfl) (fun x => by kernel_rfl) (Eleap_Check Xleap_wrong)
abbrev Tleap_Right : Type := Q70 → (Bool → Prop) → Prop
def Yleap_Right (xleap_Check : Tleap_Check) (a0 : Q70) (K : Bool → Prop) : Prop :=
 xleap_Check a0 (fun r1 r2 =>
 K (r2 == 0))
def Xleap_Right : Tleap_Right := Yleap_Right Xleap_Check
def Jleap_Right (X : Tleap_Right) : Inst := mkI 43 pL74 .nil pL1 .nil X
def Ileap_Right : Inst := Jleap_Right Xleap_Right
theorem Eleap_Right (xleap_Check : Tleap_Check) : EqF Tryz.prog 12 gives Tryz.f43 [Jleap_Check xleap_Check] [] (Jleap_Right (Yleap_Right xleap_Check)) := fun x y K => by kernel_rfl
theorem Ileap_Right_ok : InstOk Tryz.prog G.1 Ileap_Right := iok (gives := gives) [] (okCons Ileap_Check_ok okNil) 12 follows Tryz.func43 (by kernel_rfl) (fun x => by kernel_rfl) (Eleap_Right Xleap_Check)
abbrev Tzone_Index_1 : Type := Int → (List Eng.V) → (List Eng.V) → (List Eng.V) → ByteArray → Int → Int → (Bool → ByteArray → Int → Int → (List Eng.V) → Bool → Bool → (List Eng.V) → Bool → Bool → (List Eng.V) → Bool → Bool → Prop) → Prop
def Yzone_Index_1 (a0 : Int) (a1 : (List Eng.V)) (a2 : (List Eng.V)) (a3 : (List Eng.V)) (a4 : ByteArray) (a5 : Int) (a6 : Int) (K : Bool → ByteArray → Int → Int → (List Eng.V) → Bool → Bool → (List Eng.V) → Bool → Bool → (List Eng.V) → Bool → Bool → Prop) : Prop :=
 (if 0 ≤ a0 ∧ a0 < (↑(List.length a2) : Int) then
 (Eng.asInt IntKind.i64 (Eng.getC a2 (Int.toNat a0) (0 : Nat)) False fun n7 =>
 K (decide (n7 > a6)) a4 a5 a6 a1 false true a2 false true a3 false true)
 else
 False)
def Xzone_Index_1 : Tzone_Index_1 := Yzone_Index_1
def Jzone_Index_1 (X : Tzone_Index_1) : Inst := mkI 157 pL75 pH76 pL1 pH77 X
def Izone_Index_1 : Inst := Jzone_Index_1 Xzone_Index_1
theorem Ezone_Index_1 : EqF Tryz.prog 13 gives Tryz.f157 [] [] (Jzone_Index_1 (Yzone_Index_1)) := fun x y K => by kernel_rfl
theorem Izone_Index_1_ok : InstOk Tryz.prog G.1 Izone_Index_1 := iok (gives := gives) [] okNil 13 follows Tryz.func157 (by kernel_rfl) (fun x => by kernel_rfl) (Ezone_Index_1)
abbrev Tsort_Search : Type := Int → (List Eng.V) → (List Eng.V) → (List Eng.V) → ByteArray → Int → Int → (Int → ByteArray → Int → Int → (List Eng.V) → Bool → Bool → (List Eng.V) → Bool → Bool → (List Eng.V) → Bool → Bool → Prop) → Prop
def Lsort_Search_0 (xzone_Index_1 : Tzone_Index_1) (K : Int → ByteArray → Int → Int → (List Eng.V) → Bool → Bool → (List Eng.V) → Bool → Bool → (List Eng.V) → Bool → Bool → Prop) (a1 : (List Eng.V)) (a2 : (List Eng.V)) (a3 : (List Eng.V)) (a4 : ByteArray) (a5 : Int) (a6 : Int) : (Q78 → Prop) → Q78 → Prop := fun k7 x8 =>
 (if decide (x8.1.2.2.1 < x8.1.2.2.2.1) then
 (lt (Int.fdiv (wu64 (w64 (x8.1.2.2.1 + x8.1.2.2.2.1))) 2) fun v9 =>
 xzone_Index_1 (w64 v9) x8.2.1.1 x8.2.1.2.1 x8.2.1.2.2.1 x8.2.1.2.2.2.1 x8.2.1.2.2.2.2.1 x8.2.2.1.1 (fun r10 r11 r12 r13 r14 r15 r16 r17 r18 r19 r20 r21 r22 =>
 (if (!r10) then
 k7 ((((), (), (), ()), x8.1.2.1, w64 (w64 v9 + 1), x8.1.2.2.2), (r14, r17, r20, r11, r12, ()), (r13, ()), ())
 else
 k7 ((((), (), (), ()), x8.1.2.1, x8.1.2.2.1, w64 v9, ()), (r14, r17, r20, r11, r12, ()), (r13, ()), ()))))
 else
 K x8.1.2.2.1 x8.2.1.2.2.2.1 x8.2.1.2.2.2.2.1 x8.2.2.1.1 x8.2.1.1 false true x8.2.1.2.1 false true x8.2.1.2.2.1 false true)
def Lsort_Search_0p : Lp := ⟨114, [.trim 114, .thin 384, .trim 114, .thin 385, .trim 114, .thin 386, .trim 114], pT79, pH76, 0⟩
def Ysort_Search (xzone_Index_1 : Tzone_Index_1) (a0 : Int) (a1 : (List Eng.V)) (a2 : (List Eng.V)) (a3 : (List Eng.V)) (a4 : ByteArray) (a5 : Int) (a6 : Int) (K : Int → ByteArray → Int → Int → (List Eng.V) → Bool → Bool → (List Eng.V) → Bool → Bool → (List Eng.V) → Bool → Bool → Prop) : Prop :=
 lp (Lsort_Search_0 xzone_Index_1 K a1 a2 a3 a4 a5 a6) ((((), (), (), ()), 0, 0, a0, ()), (a1, a2, a3, a4, a5, ()), (a6, ()), ())
def Xsort_Search : Tsort_Search := Ysort_Search Xzone_Index_1
def Jsort_Search (X : Tsort_Search) : Inst := mkI 156 pL80 pH76 pL6 pH77 X
def Isort_Search : Inst := Jsort_Search Xsort_Search
theorem Esort_Search (xzone_Index_1 : Tzone_Index_1) : EqF Tryz.prog 26 gives Tryz.f156 [Jzone_Index_1 xzone_Index_1] [Lsort_Search_0p] (Jsort_Search (Ysort_Search xzone_Index_1)) := fun x y K => by kernel_rfl
theorem Isort_Search_ok : InstOk Tryz.prog G.1 Isort_Search := iok (gives := gives) [Lsort_Search_0p] (okCons Izone_Index_1_ok okNil) 26 follows Tryz.func156 (by kernel_rfl) (fun x => by kernel_rfl) (Esort_Search Xzone_Index_1)
abbrev Tzone_Index : Type := Q15 → Int → (Int → Prop) → Prop
def Yzone_Index (xsort_Search : Tsort_Search) (a0 : Q15) (a1 : Int) (K : Int → Prop) : Prop :=
 xsort_Search (↑(List.length a0.2.1) : Int) a0.1 a0.2.1 a0.2.2.1 a0.2.2.2.1 a0.2.2.2.2.1 a1 (fun r2 r3 r4 r5 r6 r7 r8 r9 r10 r11 r12 r13 r14 =>
 K (w64 (r2 - 1)))
def Xzone_Index : Tzone_Index := Yzone_Index Xsort_Search
def Jzone_Index (X : Tzone_Index) : Inst := mkI 73 pL81 .nil pL6 .nil X
def Izone_Index : Inst := Jzone_Index Xzone_Index
theorem Ezone_Index (xsort_Search : Tsort_Search) : EqF Tryz.prog 11 gives Tryz.f73 [Jsort_Search xsort_Search] [] (Jzone_Index (Yzone_Index xsort_Search)) := fun x y K => by kernel_rfl
theorem Izone_Index_ok : InstOk Tryz.prog G.1 Izone_Index := iok (gives := gives) [] (okCons Isort_Search_ok okNil) 11 follows Tryz.func73 (by kernel_rfl) (fun x => by kernel_rfl) (Ezone_Index Xsort_Search)
abbrev Trecord_Sum_1_1 : Type := Int → (List Eng.V) → Int → (Bool → Int → (List Eng.V) → Bool → Bool → Prop) → Prop
def Yrecord_Sum_1_1 (a0 : Int) (a1 : (List Eng.V)) (a2 : Int) (K : Bool → Int → (List Eng.V) → Bool → Bool → Prop) : Prop :=
 (if 0 ≤ a0 ∧ a0 < (↑(List.length a1) : Int) then
 (Eng.asInt IntKind.i64 (Eng.getC a1 (Int.toNat a0) (0 : Nat)) False fun n3 =>
 K (decide (n3 > a2)) a2 a1 false true)
 else
 False)
def Xrecord_Sum_1_1 : Trecord_Sum_1_1 := Yrecord_Sum_1_1
def Jrecord_Sum_1_1 (X : Trecord_Sum_1_1) : Inst := mkI 167 pL75 pH83 pL1 pH82 X
def Irecord_Sum_1_1 : Inst := Jrecord_Sum_1_1 Xrecord_Sum_1_1
theorem Erecord_Sum_1_1 : EqF Tryz.prog 12 gives Tryz.f167 [] [] (Jrecord_Sum_1_1 (Yrecord_Sum_1_1)) := fun x y K => by kernel_rfl
theorem Irecord_Sum_1_1_ok : InstOk Tryz.prog G.1 Irecord_Sum_1_1 := iok (gives := gives) [] okNil 12 follows Tryz.func167 (by kernel_rfl) (fun x => by kernel_rfl) (Erecord_Sum_1_1)
abbrev Tsort_Search_1 : Type := Int → Int → (List Eng.V) → Bool → Bool → (Int → Int → (List Eng.V) → Bool → Bool → Prop) → Prop
def Lsort_Search_1_0 (xrecord_Sum_1_1 : Trecord_Sum_1_1) (K : Int → Int → (List Eng.V) → Bool → Bool → Prop) (a1 : Int) (a2 : (List Eng.V)) (a3 : Bool) (a4 : Bool) : (Q84 → Prop) → Q84 → Prop := fun k5 x6 =>
 (if decide (x6.1.2.2.1 < x6.1.2.2.2.1) then
 (lt (Int.fdiv (wu64 (w64 (x6.1.2.2.1 + x6.1.2.2.2.1))) 2) fun v7 =>
 xrecord_Sum_1_1 (w64 v7) x6.2.1.1 x6.2.2.1.1 (fun r8 r9 r10 r11 r12 =>
 (if (!r8) then
 k5 ((((), (), (), ()), x6.1.2.1, w64 (w64 v7 + 1), x6.1.2.2.2), (r10, ()), (r9, ()), (x6.2.2.2.1.1, x6.2.2.2.1.2.1, true), ())
 else
 k5 ((((), (), (), ()), x6.1.2.1, x6.1.2.2.1, w64 v7, ()), (r10, ()), (r9, ()), (x6.2.2.2.1.1, x6.2.2.2.1.2.1, true), ()))))
 else
 K x6.1.2.2.1 x6.2.2.1.1 x6.2.1.1 false true)
def Lsort_Search_1_0p : Lp := ⟨114, [.trim 114, .thin 2, .trim 114, .thin 384, .trim 114], pT85, pH86, 0⟩
def Ysort_Search_1 (xrecord_Sum_1_1 : Trecord_Sum_1_1) (a0 : Int) (a1 : Int) (a2 : (List Eng.V)) (a3 : Bool) (a4 : Bool) (K : Int → Int → (List Eng.V) → Bool → Bool → Prop) : Prop :=
 lp (Lsort_Search_1_0 xrecord_Sum_1_1 K a1 a2 a3 a4) ((((), (), (), ()), 0, 0, a0, ()), (a2, ()), (a1, ()), (a2, a3, true), ())
def Xsort_Search_1 : Tsort_Search_1 := Ysort_Search_1 Xrecord_Sum_1_1
def Jsort_Search_1 (X : Tsort_Search_1) : Inst := mkI 156 pL87 pH82 pL6 pH82 X
def Isort_Search_1 : Inst := Jsort_Search_1 Xsort_Search_1
theorem Esort_Search_1 (xrecord_Sum_1_1 : Trecord_Sum_1_1) : EqF Tryz.prog 26 gives Tryz.f156 [Jrecord_Sum_1_1 xrecord_Sum_1_1] [Lsort_Search_1_0p] (Jsort_Search_1 (Ysort_Search_1 xrecord_Sum_1_1)) := fun x y K => by kernel_rfl
theorem Isort_Search_1_ok : InstOk Tryz.prog G.1 Isort_Search_1 := iok (gives := gives) [Lsort_Search_1_0p] (okCons Irecord_Sum_1_1_ok okNil) 26 follows Tryz.func156 (by kernel_rfl) (fun x => by kernel_rfl) (Esort_Search_1 Xrecord_Sum_1_1)
abbrev Trecord_Sum : Type := (List Eng.V) → Int → (Int → Prop) → Prop
def Yrecord_Sum (xrecord_leaps : Trecord_leaps) (xsort_Search_1 : Tsort_Search_1) (a0 : (List Eng.V)) (a1 : Int) (K : Int → Prop) : Prop :=
 xrecord_leaps a0 (fun r2 r3 r4 =>
 xsort_Search_1 (↑(List.length r2) : Int) a1 r2 r3 r4 (fun r5 r6 r7 r8 r9 =>
 (if (r5 == 0) then
 K 0
 else
 (if 0 ≤ w64 (r5 - 1) ∧ w64 (r5 - 1) < (↑(List.length r7) : Int) then
 (Eng.asInt IntKind.i64 (Eng.getC r7 (Int.toNat (w64 (r5 - 1))) (1 : Nat)) False fun n10 =>
 K n10)
 else
 False))))
def Xrecord_Sum : Trecord_Sum := Yrecord_Sum Xrecord_leaps Xsort_Search_1
def Jrecord_Sum (X : Trecord_Sum) : Inst := mkI 87 pL88 .nil pL6 .nil X
def Irecord_Sum : Inst := Jrecord_Sum Xrecord_Sum
theorem Erecord_Sum (xrecord_leaps : Trecord_leaps) (xsort_Search_1 : Tsort_Search_1) : EqF Tryz.prog 20 gives Tryz.f87 [Jrecord_leaps xrecord_leaps, Jsort_Search_1 xsort_Search_1] [] (Jrecord_Sum (Yrecord_Sum xrecord_leaps xsort_Search_1)) := fun x y K => by kernel_rfl
theorem Irecord_Sum_ok : InstOk Tryz.prog G.1 Irecord_Sum := iok (gives := gives) [] (okCons Irecord_leaps_ok (okCons Isort_Search_1_ok okNil)) 20 follows Tryz.func87 (by kernel_rfl) (fun x => by kernel_rfl) (Erecord_Sum Xrecord_leaps Xsort_Search_1)
abbrev Tzone_Posix : Type := Q15 → Int → (Int → Prop) → Prop
def Yzone_Posix (xrecord_Sum : Trecord_Sum) (a0 : Q15) (a1 : Int) (K : Int → Prop) : Prop :=
 xrecord_Sum a0.2.2.1 a1 (fun r2 =>
 K (w64 (a1 - r2)))
def Xzone_Posix : Tzone_Posix := Yzone_Posix Xrecord_Sum
def Jzone_Posix (X : Tzone_Posix) : Inst := mkI 41 pL81 .nil pL6 .nil X
def Izone_Posix : Inst := Jzone_Posix Xzone_Posix
theorem Ezone_Posix (xrecord_Sum : Trecord_Sum) : EqF Tryz.prog 11 gives Tryz.f41 [Jrecord_Sum xrecord_Sum] [] (Jzone_Posix (Yzone_Posix xrecord_Sum)) := fun x y K => by kernel_rfl
theorem Izone_Posix_ok : InstOk Tryz.prog G.1 Izone_Posix := iok (gives := gives) [] (okCons Irecord_Sum_ok okNil) 11 follows Tryz.func41 (by kernel_rfl) (fun x => by kernel_rfl) (Ezone_Posix Xrecord_Sum)
abbrev Tnum_Add : Type := Int → Int → (Int → Bool → Prop) → Prop
def Ynum_Add (a0 : Int) (a1 : Int) (K : Int → Bool → Prop) : Prop :=
 (lt (!decide (w64 (a0 + a1) > a0) == decide (a1 > 0)) fun v2 =>
 (if v2 then
 (if (a1 != 0) then
 K 0 false
 else
 K (w64 (a0 + a1)) true)
 else
 K (w64 (a0 + a1)) true))
def Xnum_Add : Tnum_Add := Ynum_Add
def Jnum_Add (X : Tnum_Add) : Inst := mkI 97 pL24 .nil pL25 .nil X
def Inum_Add : Inst := Jnum_Add Xnum_Add
theorem Enum_Add : EqF Tryz.prog 21 gives Tryz.f97 [] [] (Jnum_Add (Ynum_Add)) := fun x y K => by kernel_rfl
theorem Inum_Add_ok : InstOk Tryz.prog G.1 Inum_Add := iok (gives := gives) [] okNil 21 follows Tryz.func97 (by kernel_rfl) (fun x => by kernel_rfl) (Enum_Add)
abbrev Tfoot_year : Type := Int → (Int → Bool → Prop) → Prop
def Yfoot_year (xnum_Div : Tnum_Div) (xday_Date : Tday_Date) (a0 : Int) (K : Int → Bool → Prop) : Prop :=
 xnum_Div a0 86400 (fun r1 r2 r3 =>
 xday_Date r1 (fun r4 r5 r6 r7 =>
 K r4 r7))
def Xfoot_year : Tfoot_year := Yfoot_year Xnum_Div Xday_Date
def Jfoot_year (X : Tfoot_year) : Inst := mkI 184 pL6 .nil pL25 .nil X
def Ifoot_year : Inst := Jfoot_year Xfoot_year
theorem Efoot_year (xnum_Div : Tnum_Div) (xday_Date : Tday_Date) : EqF Tryz.prog 26 gives Tryz.f184 [Jnum_Div xnum_Div, Jday_Date xday_Date] [] (Jfoot_year (Yfoot_year xnum_Div xday_Date)) := fun x y K => by kernel_rfl
theorem Ifoot_year_ok : InstOk Tryz.prog G.1 Ifoot_year := iok (gives := gives) [] (okCons Inum_Div_ok (okCons Iday_Date_ok okNil)) 26 follows Tryz.func184 (by kernel_rfl) (fun x => by kernel_rfl) (Efoot_year Xnum_Div Xday_Date)
end Go.Proofs.YtenaflbcnkalbaaGreatDoor
end
section
set_option linter.unusedVariables false
set_option linter.unusedSimpArgs false
namespace Go.Proofs.YtenaflbcnkalbaaGreatDoor
open Go Go.Proofs.YtenaflbcnkalbaaGreatDoor.Eng
set_option maxRecDepth 100000
set_option maxHeartbeats 4000000
variable {G : Gs}
abbrev Tday_Number : Type := Int → Int → Int → (Int → Bool → Prop) → Prop
def Yday_Number (xday_Last : Tday_Last) (xnum_Div : Tnum_Div) (a0 : Int) (a1 : Int) (a2 : Int) (K : Int → Bool → Prop) : Prop :=
 xday_Last a0 a1 (fun r3 r4 =>
 (if (!r4) then
 K 0 false
 else
 (if decide (a2 < 1) then
 K 0 false
 else
 (if decide (a2 > r3) then
 K 0 false
 else
 (if decide (a1 < 3) then
 xnum_Div (w64 (a0 - 1)) 400 (fun r5 r6 r7 =>
 (lt (w64 (w64 (a1 + 12) - 3)) fun v8 =>
 (lt (w64 (w64 (153 * v8) + 2)) fun v9 =>
 (lt (w64 (w64 (Int.tdiv v9 5) + a2)) fun v10 =>
 (lt (w64 (w64 (146097 * r5) + w64 (365 * r6))) fun v11 =>
 (lt (w64 (v11 + w64 (Int.tdiv r6 4))) fun v12 =>
 (lt (w64 (v12 - w64 (Int.tdiv r6 100))) fun v13 =>
 (lt (w64 (v13 + w64 (v10 - 1))) fun v14 =>
 K (w64 (v14 - 719468)) true))))))))
 else
 xnum_Div a0 400 (fun r15 r16 r17 =>
 (lt (w64 (153 * w64 (a1 - 3))) fun v18 =>
 (lt (w64 (Int.tdiv (w64 (v18 + 2)) 5)) fun v19 =>
 (lt (w64 (w64 (v19 + a2) - 1)) fun v20 =>
 (lt (w64 (w64 (146097 * r15) + w64 (365 * r16))) fun v21 =>
 (lt (w64 (v21 + w64 (Int.tdiv r16 4))) fun v22 =>
 (lt (w64 (v22 - w64 (Int.tdiv r16 100))) fun v23 =>
 (lt (w64 (w64 (v23 + v20) - 719468)) fun v24 =>
 K v24 true)))))))))))))
def Xday_Number : Tday_Number := Yday_Number Xday_Last Xnum_Div
def Jday_Number (X : Tday_Number) : Inst := mkI 142 pL20 .nil pL25 .nil X
def Iday_Number : Inst := Jday_Number Xday_Number
theorem Eday_Number (xday_Last : Tday_Last) (xnum_Div : Tnum_Div) : EqF Tryz.prog 65 gives Tryz.f142 [Jday_Last xday_Last, Jnum_Div xnum_Div] [] (Jday_Number (Yday_Number xday_Last xnum_Div)) := fun x y K => by kernel_rfl
theorem Iday_Number_ok : InstOk Tryz.prog G.1 Iday_Number := iok (gives := gives) [] (okCons Iday_Last_ok (okCons Inum_Div_ok okNil)) 65 follows Tryz.func142 (by kernel_rfl) (fun x => by kernel_rfl) (Eday_Number Xday_Last Xnum_Div)
abbrev Tday_Week : Type := Int → (Int → Prop) → Prop
def Yday_Week (xnum_Div : Tnum_Div) (a0 : Int) (K : Int → Prop) : Prop :=
 xnum_Div (w64 (Int.tmod a0 (7 :Int) + 4)) 7 (fun r1 r2 r3 =>
 K r2)
def Xday_Week : Tday_Week := Yday_Week Xnum_Div
def Jday_Week (X : Tday_Week) : Inst := mkI 287 pL6 .nil pL6 .nil X
def Iday_Week : Inst := Jday_Week Xday_Week
theorem Eday_Week (xnum_Div : Tnum_Div) : EqF Tryz.prog 15 gives Tryz.f287 [Jnum_Div xnum_Div] [] (Jday_Week (Yday_Week xnum_Div)) := fun x y K => by kernel_rfl
theorem Iday_Week_ok : InstOk Tryz.prog G.1 Iday_Week := iok (gives := gives) [] (okCons Inum_Div_ok okNil) 15 follows Tryz.func287 (by kernel_rfl) (fun x => by kernel_rfl) (Eday_Week Xnum_Div)
abbrev Trule_Day : Type := Q57 → Int → (Int → Bool → Prop) → Prop
def Yrule_Day (xday_Number : Tday_Number) (xrule_Right : Trule_Right) (xday_Leap : Tday_Leap) (xday_Last : Tday_Last) (xday_Week : Tday_Week) (a0 : Q57) (a1 : Int) (K : Int → Bool → Prop) : Prop :=
 xday_Number a1 1 1 (fun r2 r3 =>
 (if (!r3) then
 K 0 false
 else
 xrule_Right a0 (fun r4 =>
 (if (!r4) then
 K 0 false
 else
 (if (a0.1 == 2) then
 K (w64 (r2 + a0.2.1)) true
 else
 (if (a0.1 == 1) then
 (if decide (a0.2.1 ≤ 59) then
 (lt (w64 (w64 (r2 - 1) + a0.2.1)) fun v5 =>
 K v5 true)
 else
 xday_Leap a1 (fun r6 =>
 (if (!r6) then
 (lt (w64 (w64 (r2 - 1) + a0.2.1)) fun v7 =>
 K v7 true)
 else
 K (w64 (r2 + a0.2.1)) true)))
 else
 xday_Number a1 a0.2.1 1 (fun r8 r9 =>
 xday_Last a1 a0.2.1 (fun r10 r11 =>
 (lt (w64 (7 * w64 (a0.2.2.1 - 1))) fun v12 =>
 xday_Week r8 (fun r13 =>
 (lt (w64 (w64 (a0.2.2.2.1 - r13) + 7)) fun v14 =>
 (lt (decide (w64 (Int.tmod v14 7 + v12) ≥ r10)) fun v15 =>
 (if v15 then
 (lt (w64 (w64 (Int.tmod v14 7 + v12) - 7)) fun v16 =>
 K (w64 (r8 + v16)) true)
 else
 (lt (w64 (r8 + w64 (Int.tmod v14 7 + v12))) fun v17 =>
 K v17 true))))))))))))))
def Xrule_Day : Trule_Day := Yrule_Day Xday_Number Xrule_Right Xday_Leap Xday_Last Xday_Week
def Jrule_Day (X : Trule_Day) : Inst := mkI 268 pL89 .nil pL25 .nil X
def Irule_Day : Inst := Jrule_Day Xrule_Day
theorem Erule_Day (xday_Number : Tday_Number) (xrule_Right : Trule_Right) (xday_Leap : Tday_Leap) (xday_Last : Tday_Last) (xday_Week : Tday_Week) : EqF Tryz.prog 83 gives Tryz.f268 [Jday_Number xday_Number, Jrule_Right xrule_Right, Jday_Leap xday_Leap, Jday_Last xday_Last, Jday_Week xday_Week] [] (Jrule_Day (Yrule_Day xday_Number xrule_Right xday_Leap xday_Last xday_Week)) := fun x y K => by kernel_rfl
theorem Irule_Day_ok : InstOk Tryz.prog G.1 Irule_Day := iok (gives := gives) [] (okCons Iday_Number_ok (okCons Irule_Right_ok (okCons Iday_Leap_ok (okCons Iday_Last_ok (okCons Iday_Week_ok okNil))))) 83 follows Tryz.func268 (by kernel_rfl) (fun x => by kernel_rfl) (Erule_Day Xday_Number Xrule_Right Xday_Leap Xday_Last Xday_Week)
abbrev Trule_At : Type := Q57 → Int → (Int → Bool → Prop) → Prop
def Yrule_At (xrule_Day : Trule_Day) (a0 : Q57) (a1 : Int) (K : Int → Bool → Prop) : Prop :=
 xrule_Day a0 a1 (fun r2 r3 =>
 (if (!r3) then
 K 0 false
 else
 (lt (w64 (w64 (r2 * 86400) + a0.2.2.2.2.1)) fun v4 =>
 K v4 true)))
def Xrule_At : Trule_At := Yrule_At Xrule_Day
def Jrule_At (X : Trule_At) : Inst := mkI 234 pL89 .nil pL25 .nil X
def Irule_At : Inst := Jrule_At Xrule_At
theorem Erule_At (xrule_Day : Trule_Day) : EqF Tryz.prog 21 gives Tryz.f234 [Jrule_Day xrule_Day] [] (Jrule_At (Yrule_At xrule_Day)) := fun x y K => by kernel_rfl
theorem Irule_At_ok : InstOk Tryz.prog G.1 Irule_At := iok (gives := gives) [] (okCons Irule_Day_ok okNil) 21 follows Tryz.func234 (by kernel_rfl) (fun x => by kernel_rfl) (Erule_At Xrule_Day)
abbrev Tfoot_Span : Type := Q59 → Int → (Int → Int → Bool → Prop) → Prop
def Yfoot_Span (xfoot_Right : Tfoot_Right) (xrule_At : Trule_At) (a0 : Q59) (a1 : Int) (K : Int → Int → Bool → Prop) : Prop :=
 (if (!a0.2.2.2.2.2.2.1) then
 K 0 0 false
 else
 xfoot_Right a0 (fun r2 =>
 (if (!r2) then
 K 0 0 false
 else
 xrule_At (a0.2.2.2.2.2.2.2.1, a0.2.2.2.2.2.2.2.2.1, a0.2.2.2.2.2.2.2.2.2.1, a0.2.2.2.2.2.2.2.2.2.2.1, a0.2.2.2.2.2.2.2.2.2.2.2.1, ()) a1 (fun r3 r4 =>
 (if (!r4) then
 K 0 0 false
 else
 xrule_At a0.2.2.2.2.2.2.2.2.2.2.2.2 a1 (fun r5 r6 =>
 K (w64 (r3 - a0.1)) (w64 (r5 - a0.2.2.2.1)) true))))))
def Xfoot_Span : Tfoot_Span := Yfoot_Span Xfoot_Right Xrule_At
def Jfoot_Span (X : Tfoot_Span) : Inst := mkI 185 pL90 .nil pL66 .nil X
def Ifoot_Span : Inst := Jfoot_Span Xfoot_Span
theorem Efoot_Span (xfoot_Right : Tfoot_Right) (xrule_At : Trule_At) : EqF Tryz.prog 41 gives Tryz.f185 [Jfoot_Right xfoot_Right, Jrule_At xrule_At] [] (Jfoot_Span (Yfoot_Span xfoot_Right xrule_At)) := fun x y K => by kernel_rfl
theorem Ifoot_Span_ok : InstOk Tryz.prog G.1 Ifoot_Span := iok (gives := gives) [] (okCons Ifoot_Right_ok (okCons Irule_At_ok okNil)) 41 follows Tryz.func185 (by kernel_rfl) (fun x => by kernel_rfl) (Efoot_Span Xfoot_Right Xrule_At)
abbrev Tfoot_Lookup : Type := Q59 → Int → (Q32 → Prop) → Prop
def Yfoot_Lookup (xnum_Add : Tnum_Add) (xfoot_year : Tfoot_year) (xfoot_Span : Tfoot_Span) (a0 : Q59) (a1 : Int) (K : Q32 → Prop) : Prop :=
 xnum_Add a1 a0.1 (fun r2 r3 =>
 xfoot_year r2 (fun r4 r5 =>
 xfoot_Span a0 r4 (fun r6 r7 r8 =>
 (if (!r3) then
 K (a0.1, a0.2.1, a0.2.2.1, ())
 else
 (if (!r5) then
 K (a0.1, a0.2.1, a0.2.2.1, ())
 else
 (if (!r8) then
 K (a0.1, a0.2.1, a0.2.2.1, ())
 else
 (if decide (a1 ≥ r6) then
 (if decide (a1 < r7) then
 K (a0.2.2.2.1, a0.2.2.2.2.1, a0.2.2.2.2.2.1, ())
 else
 (if decide (r6 ≥ r7) then
 (if decide (a1 ≥ r6) then
 K (a0.2.2.2.1, a0.2.2.2.2.1, a0.2.2.2.2.2.1, ())
 else
 (if decide (a1 < r7) then
 K (a0.2.2.2.1, a0.2.2.2.2.1, a0.2.2.2.2.2.1, ())
 else
 K (a0.1, a0.2.1, a0.2.2.1, ())))
 else
 K (a0.1, a0.2.1, a0.2.2.1, ())))
 else
 (if decide (r6 ≥ r7) then
 (if decide (a1 ≥ r6) then
 K (a0.2.2.2.1, a0.2.2.2.2.1, a0.2.2.2.2.2.1, ())
 else
 (if decide (a1 < r7) then
 K (a0.2.2.2.1, a0.2.2.2.2.1, a0.2.2.2.2.2.1, ())
 else
 K (a0.1, a0.2.1, a0.2.2.1, ())))
 else
 K (a0.1, a0.2.1, a0.2.2.1, ())))))))))
def Xfoot_Lookup : Tfoot_Lookup := Yfoot_Lookup Xnum_Add Xfoot_year Xfoot_Span
def Jfoot_Lookup (X : Tfoot_Lookup) : Inst := mkI 107 pL90 .nil pL91 .nil X
def Ifoot_Lookup : Inst := Jfoot_Lookup Xfoot_Lookup
theorem Efoot_Lookup (xnum_Add : Tnum_Add) (xfoot_year : Tfoot_year) (xfoot_Span : Tfoot_Span) : EqF Tryz.prog 71 gives Tryz.f107 [Jnum_Add xnum_Add, Jfoot_year xfoot_year, Jfoot_Span xfoot_Span] [] (Jfoot_Lookup (Yfoot_Lookup xnum_Add xfoot_year xfoot_Span)) := fun x y K => by kernel_rfl
theorem Ifoot_Lookup_ok : InstOk Tryz.prog G.1 Ifoot_Lookup := iok (gives := gives) [] (okCons Inum_Add_ok (okCons Ifoot_year_ok (okCons Ifoot_Span_ok okNil))) 71 follows Tryz.func107 (by kernel_rfl) (fun x => by kernel_rfl) (Efoot_Lookup Xnum_Add Xfoot_year Xfoot_Span)
abbrev Tzone_Lookup : Type := Q15 → Int → (Q32 → Prop) → Prop
def Yzone_Lookup (xzone_Index : Tzone_Index) (xfoot_Parse : Tfoot_Parse) (xzone_Posix : Tzone_Posix) (xfoot_Lookup : Tfoot_Lookup) (a0 : Q15) (a1 : Int) (K : Q32 → Prop) : Prop :=
 xzone_Index a0 a1 (fun r2 =>
 (if (!ByteArray.toList a0.2.2.2.1 == ByteArray.toList (ByteArray.mk #[])) then
 (if (w64 (r2 + 1) == (↑(List.length a0.2.1) : Int)) then
 xfoot_Parse a0.2.2.2.1 (fun r3 r4 =>
 xzone_Posix a0 a1 (fun r5 =>
 xfoot_Lookup r3 r5 (fun r6 =>
 K r6)))
 else
 (if decide (r2 < 0) then
 (if (0 :Int) ≤ 0 ∧ 0 < (↑(List.length a0.1) : Int) then
 (Eng.asInt IntKind.i64 (Eng.getC a0.1 (0 : Nat) (0 : Nat)) False fun n7 =>
 (Eng.asBool (Eng.getC a0.1 (0 : Nat) (1 : Nat)) False fun b8 =>
 (Eng.asStr (Eng.getC a0.1 (0 : Nat) (2 : Nat)) False fun t9 =>
 K (n7, b8, t9, ()))))
 else
 False)
 else
 (if 0 ≤ r2 ∧ r2 < (↑(List.length a0.2.1) : Int) then
 (Eng.asInt IntKind.i64 (Eng.getC a0.2.1 (Int.toNat r2) (1 : Nat)) False fun n10 =>
 (if 0 ≤ n10 ∧ n10 < (↑(List.length a0.1) : Int) then
 (Eng.asInt IntKind.i64 (Eng.getC a0.1 (Int.toNat n10) (0 : Nat)) False fun n11 =>
 (Eng.asBool (Eng.getC a0.1 (Int.toNat n10) (1 : Nat)) False fun b12 =>
 (Eng.asStr (Eng.getC a0.1 (Int.toNat n10) (2 : Nat)) False fun t13 =>
 K (n11, b12, t13, ()))))
 else
 False))
 else
 False)))
 else
 (if decide (r2 < 0) then
 (if (0 :Int) ≤ 0 ∧ 0 < (↑(List.length a0.1) : Int) then
 (Eng.asInt IntKind.i64 (Eng.getC a0.1 (0 : Nat) (0 : Nat)) False fun n14 =>
 (Eng.asBool (Eng.getC a0.1 (0 : Nat) (1 : Nat)) False fun b15 =>
 (Eng.asStr (Eng.getC a0.1 (0 : Nat) (2 : Nat)) False fun t16 =>
 K (n14, b15, t16, ()))))
 else
 False)
 else
 (if 0 ≤ r2 ∧ r2 < (↑(List.length a0.2.1) : Int) then
 (Eng.asInt IntKind.i64 (Eng.getC a0.2.1 (Int.toNat r2) (1 : Nat)) False fun n17 =>
 (if 0 ≤ n17 ∧ n17 < (↑(List.length a0.1) : Int) then
 (Eng.asInt IntKind.i64 (Eng.getC a0.1 (Int.toNat n17) (0 : Nat)) False fun n18 =>
 (Eng.asBool (Eng.getC a0.1 (Int.toNat n17) (1 : Nat)) False fun b19 =>
 (Eng.asStr (Eng.getC a0.1 (Int.toNat n17) (2 : Nat)) False fun t20 =>
 K (n18, b19, t20, ()))))
 else
 False))
 else
 False))))
def Xzone_Lookup : Tzone_Lookup := Yzone_Lookup Xzone_Index Xfoot_Parse Xzone_Posix Xfoot_Lookup
def Jzone_Lookup (X : Tzone_Lookup) : Inst := mkI 40 pL81 .nil pL91 .nil X
def Izone_Lookup : Inst := Jzone_Lookup Xzone_Lookup
theorem Ezone_Lookup (xzone_Index : Tzone_Index) (xfoot_Parse : Tfoot_Parse) (xzone_Posix : Tzone_Posix) (xfoot_Lookup : Tfoot_Lookup) : EqF Tryz.prog 51 gives Tryz.f40 [Jzone_Index xzone_Index, Jfoot_Parse xfoot_Parse, Jzone_Posix xzone_Posix, Jfoot_Lookup xfoot_Lookup] [] (Jzone_Lookup (Yzone_Lookup xzone_Index xfoot_Parse xzone_Posix xfoot_Lookup)) := fun x y K => by kernel_rfl
theorem Izone_Lookup_ok : InstOk Tryz.prog G.1 Izone_Lookup := iok (gives := gives) [] (okCons Izone_Index_ok (okCons Ifoot_Parse_ok (okCons Izone_Posix_ok (okCons Ifoot_Lookup_ok okNil)))) 51 follows Tryz.func40 (by kernel_rfl) (fun x => by kernel_rfl) (Ezone_Lookup Xzone_Index Xfoot_Parse Xzone_Posix Xfoot_Lookup)
abbrev Tright_Instant : Type := Q15 → Q68 → (Int → Prop) → Prop
def Yright_Instant (xzone_Lookup : Tzone_Lookup) (a0 : Q15) (a1 : Q68) (K : Int → Prop) : Prop :=
 (lt (w64 (w64 (a1.1 + 1) * 86400)) fun v2 =>
 (if (!a1.2.2.1) then
 K v2
 else
 xzone_Lookup a0 (w64 (v2 - 1)) (fun r3 =>
 K (w64 (v2 - r3.1)))))
def Xright_Instant : Tright_Instant := Yright_Instant Xzone_Lookup
def Jright_Instant (X : Tright_Instant) : Inst := mkI 36 pL92 .nil pL6 .nil X
def Iright_Instant : Inst := Jright_Instant Xright_Instant
theorem Eright_Instant (xzone_Lookup : Tzone_Lookup) : EqF Tryz.prog 21 gives Tryz.f36 [Jzone_Lookup xzone_Lookup] [] (Jright_Instant (Yright_Instant xzone_Lookup)) := fun x y K => by kernel_rfl
theorem Iright_Instant_ok : InstOk Tryz.prog G.1 Iright_Instant := iok (gives := gives) [] (okCons Izone_Lookup_ok okNil) 21 follows Tryz.func36 (by kernel_rfl) (fun x => by kernel_rfl) (Eright_Instant Xzone_Lookup)
abbrev Tright_Records : Type := Q15 → Q70 → (Int → (List Eng.V) → Bool → Bool → Prop) → Prop
def Lright_Records_0 (xright_Instant : Tright_Instant) (xrecord_Check : Trecord_Check) (K : Int → (List Eng.V) → Bool → Bool → Prop) : (Q93 → Prop) → Q93 → Prop := fun k2 x3 =>
 (if decide (x3.1.2.2.2.2.2.2.2.2.1 < x3.1.2.2.2.2.2.2.2.1) then
 (if 0 ≤ x3.1.2.2.2.2.2.2.2.2.1 ∧ x3.1.2.2.2.2.2.2.2.2.1 < (↑(List.length x3.1.2.2.2.2.2.2.1) : Int) then
 (Eng.asInt IntKind.i64 (Eng.getC x3.1.2.2.2.2.2.2.1 (Int.toNat x3.1.2.2.2.2.2.2.2.2.1) (0 : Nat)) False fun n4 =>
 (Eng.asInt IntKind.i64 (Eng.getC x3.1.2.2.2.2.2.2.1 (Int.toNat x3.1.2.2.2.2.2.2.2.2.1) (1 : Nat)) False fun n5 =>
 (Eng.asBool (Eng.getC x3.1.2.2.2.2.2.2.1 (Int.toNat x3.1.2.2.2.2.2.2.2.2.1) (2 : Nat)) False fun b6 =>
 xright_Instant x3.2.1 (n4, n5, b6, ()) (fun r7 =>
 (lt (w64 (w64 (r7 + x3.1.2.2.2.2.2.1) + if 0 < n5 then 0 else n5)) fun v8 =>
 (if Eng.roomOk (List.length x3.2.2.2.1 + List.length [Eng.V.agg [Eng.V.c (Value.int IntKind.i64 v8), Eng.V.c (Value.int IntKind.i64 (w64 (x3.1.2.2.2.2.2.1 + n5)))]]) (16 : Nat) then
 (lt (x3.2.2.2.1 ++ [Eng.V.agg [Eng.V.c (Value.int IntKind.i64 v8), Eng.V.c (Value.int IntKind.i64 (w64 (x3.1.2.2.2.2.2.1 + n5)))]]) fun v9 =>
 k2 (((), (), (), x3.1.2.2.2.1, (), w64 (x3.1.2.2.2.2.2.1 + n5), x3.1.2.2.2.2.2.2.1, x3.1.2.2.2.2.2.2.2.1, w64 (x3.1.2.2.2.2.2.2.2.2.1 + 1), ()), x3.2.1, x3.2.2.1, v9, ()))
 else
 False))))))
 else
 False)
 else
 (if x3.2.2.1.2.1 then
 (if Eng.roomOk (List.length x3.2.2.2.1 + List.length [Eng.V.agg [Eng.V.c (Value.int IntKind.i64 (w64 (x3.2.2.1.2.2.1 + x3.1.2.2.2.2.2.1))), Eng.V.c (Value.int IntKind.i64 x3.1.2.2.2.2.2.1)]]) (16 : Nat) then
 (lt (x3.2.2.2.1 ++ [Eng.V.agg [Eng.V.c (Value.int IntKind.i64 (w64 (x3.2.2.1.2.2.1 + x3.1.2.2.2.2.2.1))), Eng.V.c (Value.int IntKind.i64 x3.1.2.2.2.2.2.1)]]) fun v10 =>
 xrecord_Check v10 (fun r11 r12 =>
 (if (r12 != 0) then
 K r12 [] true true
 else
 K 0 v10 true false)))
 else
 False)
 else
 xrecord_Check x3.2.2.2.1 (fun r13 r14 =>
 (if (r14 != 0) then
 K r14 [] true true
 else
 K 0 x3.2.2.2.1 true false))))
def Lright_Records_0p : Lp := ⟨114940, [.trim 114940, .fat 6 2 1024, .trim 114940], pT94, pH95, 0⟩
def Yright_Records (xright_Instant : Tright_Instant) (xrecord_Check : Trecord_Check) (a0 : Q15) (a1 : Q70) (K : Int → (List Eng.V) → Bool → Bool → Prop) : Prop :=
 lp (Lright_Records_0 xright_Instant xrecord_Check K) (((), (), (), 0, (), 0, a1.1, (↑(List.length a1.1) : Int), 0, ()), a0, a1, [], ())
def Xright_Records : Tright_Records := Yright_Records Xright_Instant Xrecord_Check
def Jright_Records (X : Tright_Records) : Inst := mkI 32 pL96 .nil pL97 pH31 X
def Iright_Records : Inst := Jright_Records Xright_Records
theorem Eright_Records (xright_Instant : Tright_Instant) (xrecord_Check : Trecord_Check) : EqF Tryz.prog 60 gives Tryz.f32 [Jright_Instant xright_Instant, Jrecord_Check xrecord_Check] [Lright_Records_0p] (Jright_Records (Yright_Records xright_Instant xrecord_Check)) := fun x y K => by kernel_rfl
theorem Iright_Records_ok : InstOk Tryz.prog G.1 Iright_Records := iok (gives := gives) [Lright_Records_0p] (okCons Iright_Instant_ok (okCons Irecord_Check_ok okNil)) 60 follows Tryz.func32 (by kernel_rfl) (fun x => by kernel_rfl) (Eright_Records Xright_Instant Xrecord_Check)
abbrev Tslices_Clone___api_Type_api_Type_ : Type := (List Eng.V) → ((List Eng.V) → Bool → Bool → Prop) → Prop
def Yslices_Clone___api_Type_api_Type_ (a0 : (List Eng.V)) (K : (List Eng.V) → Bool → Bool → Prop) : Prop :=
 (if List.length a0 = (0 : Nat) then
 (
 K [] true true
 ∧
 (if Eng.roomOk ((0 : Nat) + List.length a0) (32 : Nat) then
 K ([] ++ a0) true false
 else
 False))
 else
 (if Eng.roomOk ((0 : Nat) + List.length a0) (32 : Nat) then
 K ([] ++ a0) true false
 else
 False))
def Xslices_Clone___api_Type_api_Type_ : Tslices_Clone___api_Type_api_Type_ := Yslices_Clone___api_Type_api_Type_
def Jslices_Clone___api_Type_api_Type_ (X : Tslices_Clone___api_Type_api_Type_) : Inst := mkI 153 pL98 .nil pL30 pH99 X
def Islices_Clone___api_Type_api_Type_ : Inst := Jslices_Clone___api_Type_api_Type_ Xslices_Clone___api_Type_api_Type_
theorem Eslices_Clone___api_Type_api_Type_ : EqF Tryz.prog 8 gives Tryz.f153 [] [] (Jslices_Clone___api_Type_api_Type_ (Yslices_Clone___api_Type_api_Type_)) := fun x y K => by kernel_rfl
theorem Islices_Clone___api_Type_api_Type__ok : InstOk Tryz.prog G.1 Islices_Clone___api_Type_api_Type_ := iok (gives := gives) [] okNil 8 follows Tryz.func153 (by kernel_rfl) (fun x => by kernel_rfl) (Eslices_Clone___api_Type_api_Type_)
abbrev Tslices_Clone___api_Trans_api_Trans_ : Type := (List Eng.V) → ((List Eng.V) → Bool → Bool → Prop) → Prop
def Yslices_Clone___api_Trans_api_Trans_ (a0 : (List Eng.V)) (K : (List Eng.V) → Bool → Bool → Prop) : Prop :=
 (if List.length a0 = (0 : Nat) then
 (
 K [] true true
 ∧
 (if Eng.roomOk ((0 : Nat) + List.length a0) (16 : Nat) then
 K ([] ++ a0) true false
 else
 False))
 else
 (if Eng.roomOk ((0 : Nat) + List.length a0) (16 : Nat) then
 K ([] ++ a0) true false
 else
 False))
def Xslices_Clone___api_Trans_api_Trans_ : Tslices_Clone___api_Trans_api_Trans_ := Yslices_Clone___api_Trans_api_Trans_
def Jslices_Clone___api_Trans_api_Trans_ (X : Tslices_Clone___api_Trans_api_Trans_) : Inst := mkI 154 pL29 .nil pL30 pH31 X
def Islices_Clone___api_Trans_api_Trans_ : Inst := Jslices_Clone___api_Trans_api_Trans_ Xslices_Clone___api_Trans_api_Trans_
theorem Eslices_Clone___api_Trans_api_Trans_ : EqF Tryz.prog 8 gives Tryz.f154 [] [] (Jslices_Clone___api_Trans_api_Trans_ (Yslices_Clone___api_Trans_api_Trans_)) := fun x y K => by kernel_rfl
theorem Islices_Clone___api_Trans_api_Trans__ok : InstOk Tryz.prog G.1 Islices_Clone___api_Trans_api_Trans_ := iok (gives := gives) [] okNil 8 follows Tryz.func154 (by kernel_rfl) (fun x => by kernel_rfl) (Eslices_Clone___api_Trans_api_Trans_)
abbrev Tslices_Clone___api_Corr_api_Corr_ : Type := (List Eng.V) → ((List Eng.V) → Bool → Bool → Prop) → Prop
def Yslices_Clone___api_Corr_api_Corr_ (a0 : (List Eng.V)) (K : (List Eng.V) → Bool → Bool → Prop) : Prop :=
 (if List.length a0 = (0 : Nat) then
 (
 K [] true true
 ∧
 (if Eng.roomOk ((0 : Nat) + List.length a0) (16 : Nat) then
 K ([] ++ a0) true false
 else
 False))
 else
 (if Eng.roomOk ((0 : Nat) + List.length a0) (16 : Nat) then
 K ([] ++ a0) true false
 else
 False))
def Xslices_Clone___api_Corr_api_Corr_ : Tslices_Clone___api_Corr_api_Corr_ := Yslices_Clone___api_Corr_api_Corr_
def Jslices_Clone___api_Corr_api_Corr_ (X : Tslices_Clone___api_Corr_api_Corr_) : Inst := mkI 155 pL29 .nil pL30 pH31 X
def Islices_Clone___api_Corr_api_Corr_ : Inst := Jslices_Clone___api_Corr_api_Corr_ Xslices_Clone___api_Corr_api_Corr_
theorem Eslices_Clone___api_Corr_api_Corr_ : EqF Tryz.prog 8 gives Tryz.f155 [] [] (Jslices_Clone___api_Corr_api_Corr_ (Yslices_Clone___api_Corr_api_Corr_)) := fun x y K => by kernel_rfl
theorem Islices_Clone___api_Corr_api_Corr__ok : InstOk Tryz.prog G.1 Islices_Clone___api_Corr_api_Corr_ := iok (gives := gives) [] okNil 8 follows Tryz.func155 (by kernel_rfl) (fun x => by kernel_rfl) (Eslices_Clone___api_Corr_api_Corr_)
abbrev Tzone_Copy : Type := Q15 → (Q100 → (List Eng.V) → Bool → Bool → (List Eng.V) → Bool → Bool → (List Eng.V) → Bool → Bool → Prop) → Prop
def Yzone_Copy (xslices_Clone___api_Type_api_Type_ : Tslices_Clone___api_Type_api_Type_) (xslices_Clone___api_Trans_api_Trans_ : Tslices_Clone___api_Trans_api_Trans_) (xslices_Clone___api_Corr_api_Corr_ : Tslices_Clone___api_Corr_api_Corr_) (a0 : Q15) (K : Q100 → (List Eng.V) → Bool → Bool → (List Eng.V) → Bool → Bool → (List Eng.V) → Bool → Bool → Prop) : Prop :=
 xslices_Clone___api_Type_api_Type_ a0.1 (fun r1 r2 r3 =>
 xslices_Clone___api_Trans_api_Trans_ a0.2.1 (fun r4 r5 r6 =>
 xslices_Clone___api_Corr_api_Corr_ a0.2.2.1 (fun r7 r8 r9 =>
 K ((), (), (), a0.2.2.2) r1 r2 r3 r4 r5 r6 r7 r8 r9)))
def Xzone_Copy : Tzone_Copy := Yzone_Copy Xslices_Clone___api_Type_api_Type_ Xslices_Clone___api_Trans_api_Trans_ Xslices_Clone___api_Corr_api_Corr_
def Jzone_Copy (X : Tzone_Copy) : Inst := mkI 72 pL19 .nil pL101 pH102 X
def Izone_Copy : Inst := Jzone_Copy Xzone_Copy
theorem Ezone_Copy (xslices_Clone___api_Type_api_Type_ : Tslices_Clone___api_Type_api_Type_) (xslices_Clone___api_Trans_api_Trans_ : Tslices_Clone___api_Trans_api_Trans_) (xslices_Clone___api_Corr_api_Corr_ : Tslices_Clone___api_Corr_api_Corr_) : EqF Tryz.prog 16 gives Tryz.f72 [Jslices_Clone___api_Type_api_Type_ xslices_Clone___api_Type_api_Type_, Jslices_Clone___api_Trans_api_Trans_ xslices_Clone___api_Trans_api_Trans_, Jslices_Clone___api_Corr_api_Corr_ xslices_Clone___api_Corr_api_Corr_] [] (Jzone_Copy (Yzone_Copy xslices_Clone___api_Type_api_Type_ xslices_Clone___api_Trans_api_Trans_ xslices_Clone___api_Corr_api_Corr_)) := fun x y K => by kernel_rfl
theorem Izone_Copy_ok : InstOk Tryz.prog G.1 Izone_Copy := iok (gives := gives) [] (okCons Islices_Clone___api_Type_api_Type__ok (okCons Islices_Clone___api_Trans_api_Trans__ok (okCons Islices_Clone___api_Corr_api_Corr__ok okNil))) 16 follows Tryz.func72 (by kernel_rfl) (fun x => by kernel_rfl) (Ezone_Copy Xslices_Clone___api_Type_api_Type_ Xslices_Clone___api_Trans_api_Trans_ Xslices_Clone___api_Corr_api_Corr_)
abbrev Tright_Shift : Type := Q15 → Q70 → Int → (Int → Bool → Prop) → Prop
def Lright_Shift_0 (xright_Instant : Tright_Instant) (xnum_Add : Tnum_Add) (K : Int → Bool → Prop) : (Q103 → Prop) → Q103 → Prop := fun k3 x4 =>
 (if decide (x4.1.2.2.2.2.2.2.2.1 < x4.1.2.2.2.2.2.2.1) then
 (if 0 ≤ x4.1.2.2.2.2.2.2.2.1 ∧ x4.1.2.2.2.2.2.2.2.1 < (↑(List.length x4.1.2.2.2.2.2.1) : Int) then
 (Eng.asInt IntKind.i64 (Eng.getC x4.1.2.2.2.2.2.1 (Int.toNat x4.1.2.2.2.2.2.2.2.1) (0 : Nat)) False fun n5 =>
 (Eng.asInt IntKind.i64 (Eng.getC x4.1.2.2.2.2.2.1 (Int.toNat x4.1.2.2.2.2.2.2.2.1) (1 : Nat)) False fun n6 =>
 (Eng.asBool (Eng.getC x4.1.2.2.2.2.2.1 (Int.toNat x4.1.2.2.2.2.2.2.2.1) (2 : Nat)) False fun b7 =>
 xright_Instant x4.2.1 (n5, n6, b7, ()) (fun r8 =>
 (if decide (r8 ≤ x4.1.1) then
 k3 ((x4.1.1, (), x4.1.2.2.1, x4.1.2.2.2.1, w64 (x4.1.2.2.2.2.1 + n6), x4.1.2.2.2.2.2.1, x4.1.2.2.2.2.2.2.1, w64 (x4.1.2.2.2.2.2.2.2.1 + 1), ()), x4.2)
 else
 k3 ((x4.1.1, (), x4.1.2.2.1, x4.1.2.2.2.1, x4.1.2.2.2.2.1, x4.1.2.2.2.2.2.1, x4.1.2.2.2.2.2.2.1, w64 (x4.1.2.2.2.2.2.2.2.1 + 1), ()), x4.2))))))
 else
 False)
 else
 xnum_Add x4.1.1 x4.1.2.2.2.2.1 (fun r9 r10 =>
 K r9 r10))
def Lright_Shift_0p : Lp := ⟨29132, [.trim 29132], pT104, pH105, 0⟩
def Yright_Shift (xright_Instant : Tright_Instant) (xnum_Add : Tnum_Add) (a0 : Q15) (a1 : Q70) (a2 : Int) (K : Int → Bool → Prop) : Prop :=
 lp (Lright_Shift_0 xright_Instant xnum_Add K) ((a2, (), 0, false, 0, a1.1, (↑(List.length a1.1) : Int), 0, ()), a0, ())
def Xright_Shift : Tright_Shift := Yright_Shift Xright_Instant Xnum_Add
def Jright_Shift (X : Tright_Shift) : Inst := mkI 34 pL106 .nil pL25 .nil X
def Iright_Shift : Inst := Jright_Shift Xright_Shift
theorem Eright_Shift (xright_Instant : Tright_Instant) (xnum_Add : Tnum_Add) : EqF Tryz.prog 33 gives Tryz.f34 [Jright_Instant xright_Instant, Jnum_Add xnum_Add] [Lright_Shift_0p] (Jright_Shift (Yright_Shift xright_Instant xnum_Add)) := fun x y K => by kernel_rfl
theorem Iright_Shift_ok : InstOk Tryz.prog G.1 Iright_Shift := iok (gives := gives) [Lright_Shift_0p] (okCons Iright_Instant_ok (okCons Inum_Add_ok okNil)) 33 follows Tryz.func34 (by kernel_rfl) (fun x => by kernel_rfl) (Eright_Shift Xright_Instant Xnum_Add)
abbrev Tright_Compile_1 : Type := Int → (List Eng.V) → (List Eng.V) → (List Eng.V) → ByteArray → Int → (List Eng.V) → Bool → Int → (Int → Bool → ByteArray → Int → Bool → Int → (List Eng.V) → Bool → Bool → (List Eng.V) → Bool → Bool → (List Eng.V) → Bool → Bool → (List Eng.V) → Bool → Bool → Prop) → Prop
def Yright_Compile_1 (xright_Shift : Tright_Shift) (a0 : Int) (a1 : (List Eng.V)) (a2 : (List Eng.V)) (a3 : (List Eng.V)) (a4 : ByteArray) (a5 : Int) (a6 : (List Eng.V)) (a7 : Bool) (a8 : Int) (K : Int → Bool → ByteArray → Int → Bool → Int → (List Eng.V) → Bool → Bool → (List Eng.V) → Bool → Bool → (List Eng.V) → Bool → Bool → (List Eng.V) → Bool → Bool → Prop) : Prop :=
 xright_Shift (a1, a2, a3, a4, a5, ()) (a6, a7, a8, ()) a0 (fun r9 r10 =>
 K r9 r10 a4 a5 a7 a8 a1 false true a2 false true a3 false true a6 false true)
def Xright_Compile_1 : Tright_Compile_1 := Yright_Compile_1 Xright_Shift
def Jright_Compile_1 (X : Tright_Compile_1) : Inst := mkI 81 pL75 pH107 pL25 pH108 X
def Iright_Compile_1 : Inst := Jright_Compile_1 Xright_Compile_1
theorem Eright_Compile_1 (xright_Shift : Tright_Shift) : EqF Tryz.prog 12 gives Tryz.f81 [Jright_Shift xright_Shift] [] (Jright_Compile_1 (Yright_Compile_1 xright_Shift)) := fun x y K => by kernel_rfl
theorem Iright_Compile_1_ok : InstOk Tryz.prog G.1 Iright_Compile_1 := iok (gives := gives) [] (okCons Iright_Shift_ok okNil) 12 follows Tryz.func81 (by kernel_rfl) (fun x => by kernel_rfl) (Eright_Compile_1 Xright_Shift)
abbrev Tright_moved : Type := Q15 → (List Eng.V) → (List Eng.V) → (List Eng.V) → ByteArray → Int → (List Eng.V) → Bool → Int → (Q100 → Int → ByteArray → Int → Bool → Int → (List Eng.V) → Bool → Bool → (List Eng.V) → Bool → Bool → (List Eng.V) → Bool → Bool → (List Eng.V) → Bool → Bool → (List Eng.V) → Bool → Bool → (List Eng.V) → Bool → Bool → (List Eng.V) → Bool → Bool → Prop) → Prop
def Lright_moved_1 (K : Q100 → Int → ByteArray → Int → Bool → Int → (List Eng.V) → Bool → Bool → (List Eng.V) → Bool → Bool → (List Eng.V) → Bool → Bool → (List Eng.V) → Bool → Bool → (List Eng.V) → Bool → Bool → (List Eng.V) → Bool → Bool → (List Eng.V) → Bool → Bool → Prop) (a1 : (List Eng.V)) (a2 : (List Eng.V)) (a3 : (List Eng.V)) (a4 : ByteArray) (a5 : Int) (a6 : (List Eng.V)) (a7 : Bool) (a8 : Int) (k19 : Q109 → Prop) : (Q110 → Prop) → Q110 → Prop := fun k41 x42 =>
 (if decide (x42.1.2.2.2.2.1 < x42.1.2.2.2.1) then
 (if decide (x42.1.2.2.2.2.1 > 0) then
 (if 0 ≤ x42.1.2.2.2.2.1 ∧ x42.1.2.2.2.2.1 < (↑(List.length x42.2.2.2.2.2.2.1.1) : Int) then
 (Eng.asInt IntKind.i64 (Eng.getC x42.2.2.2.2.2.2.1.1 (Int.toNat x42.1.2.2.2.2.1) (0 : Nat)) False fun n43 =>
 (if 0 ≤ w64 (x42.1.2.2.2.2.1 - 1) ∧ w64 (x42.1.2.2.2.2.1 - 1) < (↑(List.length x42.2.2.2.2.2.2.1.1) : Int) then
 (Eng.asInt IntKind.i64 (Eng.getC x42.2.2.2.2.2.2.1.1 (Int.toNat (w64 (x42.1.2.2.2.2.1 - 1))) (0 : Nat)) False fun n44 =>
 (if decide (n43 ≤ n44) then
 K ((), (), (), ByteArray.mk #[], 0, ()) 4 x42.2.1.2.2.2.1 x42.2.1.2.2.2.2.1 x42.2.2.1.2.1 x42.2.2.1.2.2.1 [] true true [] true true [] true true x42.2.1.1 false true x42.2.1.2.1 false true x42.2.1.2.2.1 false true x42.2.2.1.1 false true
 else
 k41 (((), (), x42.1.2.2.1, x42.1.2.2.2.1, w64 (x42.1.2.2.2.2.1 + 1), ()), x42.2.1, x42.2.2.1, ((), (), (), x42.2.2.2.1.2.2.2), ((), (), (), x42.2.2.2.2.1.2.2.2), x42.2.2.2.2.2)))
 else
 False))
 else
 False)
 else
 k41 (((), (), x42.1.2.2.1, x42.1.2.2.2.1, w64 (x42.1.2.2.2.2.1 + 1), ()), x42.2.1, x42.2.2.1, ((), (), (), x42.2.2.2.1.2.2.2), ((), (), (), x42.2.2.2.2.1.2.2.2), x42.2.2.2.2.2))
 else
 K ((), (), (), x42.2.2.2.1.2.2.2) 0 x42.2.1.2.2.2.1 x42.2.1.2.2.2.2.1 x42.2.2.1.2.1 x42.2.2.1.2.2.1 x42.2.2.2.2.2.1.1 x42.2.2.2.2.2.1.2.1 x42.2.2.2.2.2.1.2.2 x42.2.2.2.2.2.2.1.1 x42.2.2.2.2.2.2.1.2.1 x42.2.2.2.2.2.2.1.2.2 x42.2.2.2.2.2.2.2.1.1 x42.2.2.2.2.2.2.2.1.2.1 x42.2.2.2.2.2.2.2.1.2.2 x42.2.1.1 false true x42.2.1.2.1 false true x42.2.1.2.2.1 false true x42.2.2.1.1 false true)
def Lright_moved_1p : Lp := ⟨3298534883380, [.trim 3298534883380], pT111, pH112, 0⟩
def Lright_moved_0 (xright_Compile_1 : Tright_Compile_1) (K : Q100 → Int → ByteArray → Int → Bool → Int → (List Eng.V) → Bool → Bool → (List Eng.V) → Bool → Bool → (List Eng.V) → Bool → Bool → (List Eng.V) → Bool → Bool → (List Eng.V) → Bool → Bool → (List Eng.V) → Bool → Bool → (List Eng.V) → Bool → Bool → Prop) (a1 : (List Eng.V)) (a2 : (List Eng.V)) (a3 : (List Eng.V)) (a4 : ByteArray) (a5 : Int) (a6 : (List Eng.V)) (a7 : Bool) (a8 : Int) : (Q109 → Prop) → Q109 → Prop := fun k19 x20 =>
 (if decide (x20.1.2.2.2.2.2.2.1 < x20.1.2.2.2.2.2.1) then
 (if 0 ≤ x20.1.2.2.2.2.2.2.1 ∧ x20.1.2.2.2.2.2.2.1 < (↑(List.length x20.2.2.2.2.2.2.1.1) : Int) then
 (Eng.asInt IntKind.i64 (Eng.getC x20.2.2.2.2.2.2.1.1 (Int.toNat x20.1.2.2.2.2.2.2.1) (0 : Nat)) False fun n21 =>
 (Eng.asInt IntKind.i64 (Eng.getC x20.2.2.2.2.2.2.1.1 (Int.toNat x20.1.2.2.2.2.2.2.1) (1 : Nat)) False fun n22 =>
 xright_Compile_1 n21 x20.2.1.1 x20.2.1.2.1 x20.2.1.2.2.1 x20.2.1.2.2.2.1 x20.2.1.2.2.2.2.1 x20.2.2.1.1 x20.2.2.1.2.1 x20.2.2.1.2.2.1 (fun r23 r24 r25 r26 r27 r28 r29 r30 r31 r32 r33 r34 r35 r36 r37 r38 r39 r40 =>
 (if (!r24) then
 K ((), (), (), ByteArray.mk #[], 0, ()) 8 r25 r26 r27 r28 [] true true [] true true [] true true r29 r30 r31 r32 r33 r34 r35 r36 r37 r38 r39 r40
 else
 (if 0 ≤ x20.1.2.2.2.2.2.2.1 ∧ x20.1.2.2.2.2.2.2.1 < (↑(List.length x20.2.2.2.2.2.2.1.1) : Int) then
 (if x20.2.2.2.2.2.2.1.2.2 = false then
 (if Int.toNat x20.1.2.2.2.2.2.2.1 < List.length x20.2.2.2.2.2.2.1.1 then
 k19 ((((), (), (), ()), (), (), x20.1.2.2.2.1, (), x20.1.2.2.2.2.2.1, w64 (x20.1.2.2.2.2.2.2.1 + 1), ()), (r29, r32, r35, r25, r26, ()), (r38, r27, r28, ()), ((), (), (), x20.2.2.2.1.2.2.2), ((), (), (), x20.2.2.2.2.1.2.2.2), x20.2.2.2.2.2.1, (List.set x20.2.2.2.2.2.2.1.1 (Int.toNat x20.1.2.2.2.2.2.2.1) (Eng.setE (List.getD x20.2.2.2.2.2.2.1.1 (Int.toNat x20.1.2.2.2.2.2.2.1) Eng.V.bad) (0 : Nat) [Eng.V.c (Value.int IntKind.i64 r23)]), x20.2.2.2.2.2.2.1.2), x20.2.2.2.2.2.2.2)
 else
 False)
 else
 False)
 else
 False)))))
 else
 False)
 else
 lp (Lright_moved_1 K a1 a2 a3 a4 a5 a6 a7 a8 k19) (((), (), x20.1.2.2.2.1, (↑(List.length x20.2.2.2.2.2.2.1.1) : Int), 0, ()), x20.2.1, x20.2.2.1, ((), (), (), x20.2.2.2.1.2.2.2), ((), (), (), x20.2.2.2.2.1.2.2.2), x20.2.2.2.2.2))
def Lright_moved_0p : Lp := ⟨114742, [.trim 114742, .thin 464, .trim 114742, .thin 465, .trim 114742, .thin 466, .trim 114742, .thin 467, .trim 114742], pT113, pH112, 0⟩
def Yright_moved (xzone_Copy : Tzone_Copy) (xright_Compile_1 : Tright_Compile_1) (a0 : Q15) (a1 : (List Eng.V)) (a2 : (List Eng.V)) (a3 : (List Eng.V)) (a4 : ByteArray) (a5 : Int) (a6 : (List Eng.V)) (a7 : Bool) (a8 : Int) (K : Q100 → Int → ByteArray → Int → Bool → Int → (List Eng.V) → Bool → Bool → (List Eng.V) → Bool → Bool → (List Eng.V) → Bool → Bool → (List Eng.V) → Bool → Bool → (List Eng.V) → Bool → Bool → (List Eng.V) → Bool → Bool → (List Eng.V) → Bool → Bool → Prop) : Prop :=
 xzone_Copy a0 (fun r9 r10 r11 r12 r13 r14 r15 r16 r17 r18 =>
 lp (Lright_moved_0 xright_Compile_1 K a1 a2 a3 a4 a5 a6 a7 a8) ((((), (), (), ()), (), (), 0, (), (↑(List.length r13) : Int), 0, ()), (a1, a2, a3, a4, a5, ()), (a6, a7, a8, ()), ((), (), (), r9.2.2.2), ((), (), (), ByteArray.mk #[], 0, ()), (r10, r11, r12), (r13, r14, r15), (r16, r17, r18), ()))
def Xright_moved : Tright_moved := Yright_moved Xzone_Copy Xright_Compile_1
def Jright_moved (X : Tright_moved) : Inst := mkI 80 pL114 pH107 pL115 pH116 X
def Iright_moved : Inst := Jright_moved Xright_moved
theorem Eright_moved (xzone_Copy : Tzone_Copy) (xright_Compile_1 : Tright_Compile_1) : EqF Tryz.prog 65 gives Tryz.f80 [Jzone_Copy xzone_Copy, Jright_Compile_1 xright_Compile_1] [Lright_moved_0p, Lright_moved_1p] (Jright_moved (Yright_moved xzone_Copy xright_Compile_1)) := fun x y K => by kernel_rfl
theorem Iright_moved_ok : InstOk Tryz.prog G.1 Iright_moved := iok (gives := gives) [Lright_moved_0p, Lright_moved_1p] (okCons Izone_Copy_ok (okCons Iright_Compile_1_ok okNil)) 65 follows Tryz.func80 (by kernel_rfl) (fun x => by kernel_rfl) (Eright_moved Xzone_Copy Xright_Compile_1)
abbrev Tright_Compile : Type := Q15 → Q70 → (Q100 → Int → (List Eng.V) → Bool → Bool → (List Eng.V) → Bool → Bool → (List Eng.V) → Bool → Bool → Prop) → Prop
def Yright_Compile (xright_plain : Tright_plain) (xleap_Right : Tleap_Right) (xright_Records : Tright_Records) (xright_moved : Tright_moved) (a0 : Q15) (a1 : Q70) (K : Q100 → Int → (List Eng.V) → Bool → Bool → (List Eng.V) → Bool → Bool → (List Eng.V) → Bool → Bool → Prop) : Prop :=
 xright_plain a0 (fun r2 =>
 (if (!r2) then
 K ((), (), (), ByteArray.mk #[], 0, ()) 1 [] true true [] true true [] true true
 else
 xleap_Right a1 (fun r3 =>
 (if (!r3) then
 K ((), (), (), ByteArray.mk #[], 0, ()) 1 [] true true [] true true [] true true
 else
 xright_Records a0 a1 (fun r4 r5 r6 r7 =>
 (if (r4 != 0) then
 K ((), (), (), ByteArray.mk #[], 0, ()) r4 [] true true [] true true [] true true
 else
 xright_moved a0 a0.1 a0.2.1 a0.2.2.1 a0.2.2.2.1 a0.2.2.2.2.1 a1.1 a1.2.1 a1.2.2.1 (fun r8 r9 r10 r11 r12 r13 r14 r15 r16 r17 r18 r19 r20 r21 r22 r23 r24 r25 r26 r27 r28 r29 r30 r31 r32 r33 r34 =>
 (if (r9 != 0) then
 K ((), (), (), ByteArray.mk #[], 0, ()) r9 [] true true [] true true [] true true
 else
 (if r12 then
 K ((), (), (), r8.2.2.2.1, 4, ()) 0 r14 r15 r16 r17 r18 r19 r5 r6 r7
 else
 K ((), (), (), r8.2.2.2) 0 r14 r15 r16 r17 r18 r19 r5 r6 r7)))))))))
def Xright_Compile : Tright_Compile := Yright_Compile Xright_plain Xleap_Right Xright_Records Xright_moved
def Jright_Compile (X : Tright_Compile) : Inst := mkI 25 pL96 .nil pL117 pH102 X
def Iright_Compile : Inst := Jright_Compile Xright_Compile
theorem Eright_Compile (xright_plain : Tright_plain) (xleap_Right : Tleap_Right) (xright_Records : Tright_Records) (xright_moved : Tright_moved) : EqF Tryz.prog 44 gives Tryz.f25 [Jright_plain xright_plain, Jleap_Right xleap_Right, Jright_Records xright_Records, Jright_moved xright_moved] [] (Jright_Compile (Yright_Compile xright_plain xleap_Right xright_Records xright_moved)) := fun x y K => by kernel_rfl
theorem Iright_Compile_ok : InstOk Tryz.prog G.1 Iright_Compile := iok (gives := gives) [] (okCons Iright_plain_ok (okCons Ileap_Right_ok (okCons Iright_Records_ok (okCons Iright_moved_ok okNil)))) 44 follows Tryz.func25 (by kernel_rfl) (fun x => by kernel_rfl) (Eright_Compile Xright_plain Xleap_Right Xright_Records Xright_moved)
abbrev Tright_Strip_1 : Type := Int → (List Eng.V) → (List Eng.V) → (List Eng.V) → ByteArray → Int → (Int → Bool → ByteArray → Int → (List Eng.V) → Bool → Bool → (List Eng.V) → Bool → Bool → (List Eng.V) → Bool → Bool → Prop) → Prop
def Yright_Strip_1 (xrecord_Sum : Trecord_Sum) (xnum_Sub : Tnum_Sub) (a0 : Int) (a1 : (List Eng.V)) (a2 : (List Eng.V)) (a3 : (List Eng.V)) (a4 : ByteArray) (a5 : Int) (K : Int → Bool → ByteArray → Int → (List Eng.V) → Bool → Bool → (List Eng.V) → Bool → Bool → (List Eng.V) → Bool → Bool → Prop) : Prop :=
 xrecord_Sum a3 a0 (fun r6 =>
 xnum_Sub a0 r6 (fun r7 r8 =>
 K r7 r8 a4 a5 a1 false true a2 false true a3 false true))
def Xright_Strip_1 : Tright_Strip_1 := Yright_Strip_1 Xrecord_Sum Xnum_Sub
def Jright_Strip_1 (X : Tright_Strip_1) : Inst := mkI 85 pL118 pH39 pL25 pH40 X
def Iright_Strip_1 : Inst := Jright_Strip_1 Xright_Strip_1
theorem Eright_Strip_1 (xrecord_Sum : Trecord_Sum) (xnum_Sub : Tnum_Sub) : EqF Tryz.prog 13 gives Tryz.f85 [Jrecord_Sum xrecord_Sum, Jnum_Sub xnum_Sub] [] (Jright_Strip_1 (Yright_Strip_1 xrecord_Sum xnum_Sub)) := fun x y K => by kernel_rfl
theorem Iright_Strip_1_ok : InstOk Tryz.prog G.1 Iright_Strip_1 := iok (gives := gives) [] (okCons Irecord_Sum_ok (okCons Inum_Sub_ok okNil)) 13 follows Tryz.func85 (by kernel_rfl) (fun x => by kernel_rfl) (Eright_Strip_1 Xrecord_Sum Xnum_Sub)
abbrev Tright_moved_1 : Type := Q15 → (List Eng.V) → (List Eng.V) → (List Eng.V) → ByteArray → Int → (Q100 → Int → ByteArray → Int → (List Eng.V) → Bool → Bool → (List Eng.V) → Bool → Bool → (List Eng.V) → Bool → Bool → (List Eng.V) → Bool → Bool → (List Eng.V) → Bool → Bool → (List Eng.V) → Bool → Bool → Prop) → Prop
def Lright_moved_1_1 (K : Q100 → Int → ByteArray → Int → (List Eng.V) → Bool → Bool → (List Eng.V) → Bool → Bool → (List Eng.V) → Bool → Bool → (List Eng.V) → Bool → Bool → (List Eng.V) → Bool → Bool → (List Eng.V) → Bool → Bool → Prop) (a1 : (List Eng.V)) (a2 : (List Eng.V)) (a3 : (List Eng.V)) (a4 : ByteArray) (a5 : Int) (k16 : Q119 → Prop) : (Q120 → Prop) → Q120 → Prop := fun k33 x34 =>
 (if decide (x34.1.2.2.2.2.1 < x34.1.2.2.2.1) then
 (if decide (x34.1.2.2.2.2.1 > 0) then
 (if 0 ≤ x34.1.2.2.2.2.1 ∧ x34.1.2.2.2.2.1 < (↑(List.length x34.2.2.2.2.2.1.1) : Int) then
 (Eng.asInt IntKind.i64 (Eng.getC x34.2.2.2.2.2.1.1 (Int.toNat x34.1.2.2.2.2.1) (0 : Nat)) False fun n35 =>
 (if 0 ≤ w64 (x34.1.2.2.2.2.1 - 1) ∧ w64 (x34.1.2.2.2.2.1 - 1) < (↑(List.length x34.2.2.2.2.2.1.1) : Int) then
 (Eng.asInt IntKind.i64 (Eng.getC x34.2.2.2.2.2.1.1 (Int.toNat (w64 (x34.1.2.2.2.2.1 - 1))) (0 : Nat)) False fun n36 =>
 (if decide (n35 ≤ n36) then
 K ((), (), (), ByteArray.mk #[], 0, ()) 4 x34.2.1.2.2.2.1 x34.2.1.2.2.2.2.1 [] true true [] true true [] true true x34.2.1.1 false true x34.2.1.2.1 false true x34.2.1.2.2.1 false true
 else
 k33 (((), (), x34.1.2.2.1, x34.1.2.2.2.1, w64 (x34.1.2.2.2.2.1 + 1), ()), x34.2.1, ((), (), (), x34.2.2.1.2.2.2), ((), (), (), x34.2.2.2.1.2.2.2), x34.2.2.2.2)))
 else
 False))
 else
 False)
 else
 k33 (((), (), x34.1.2.2.1, x34.1.2.2.2.1, w64 (x34.1.2.2.2.2.1 + 1), ()), x34.2.1, ((), (), (), x34.2.2.1.2.2.2), ((), (), (), x34.2.2.2.1.2.2.2), x34.2.2.2.2))
 else
 K ((), (), (), x34.2.2.1.2.2.2) 0 x34.2.1.2.2.2.1 x34.2.1.2.2.2.2.1 x34.2.2.2.2.1.1 x34.2.2.2.2.1.2.1 x34.2.2.2.2.1.2.2 x34.2.2.2.2.2.1.1 x34.2.2.2.2.2.1.2.1 x34.2.2.2.2.2.1.2.2 x34.2.2.2.2.2.2.1.1 x34.2.2.2.2.2.2.1.2.1 x34.2.2.2.2.2.2.1.2.2 x34.2.1.1 false true x34.2.1.2.1 false true x34.2.1.2.2.1 false true)
def Lright_moved_1_1p : Lp := ⟨3298534883380, [.trim 3298534883380], pT111, pH121, 0⟩
def Lright_moved_1_0 (xright_Strip_1 : Tright_Strip_1) (K : Q100 → Int → ByteArray → Int → (List Eng.V) → Bool → Bool → (List Eng.V) → Bool → Bool → (List Eng.V) → Bool → Bool → (List Eng.V) → Bool → Bool → (List Eng.V) → Bool → Bool → (List Eng.V) → Bool → Bool → Prop) (a1 : (List Eng.V)) (a2 : (List Eng.V)) (a3 : (List Eng.V)) (a4 : ByteArray) (a5 : Int) : (Q119 → Prop) → Q119 → Prop := fun k16 x17 =>
 (if decide (x17.1.2.2.2.2.2.2.1 < x17.1.2.2.2.2.2.1) then
 (if 0 ≤ x17.1.2.2.2.2.2.2.1 ∧ x17.1.2.2.2.2.2.2.1 < (↑(List.length x17.2.2.2.2.2.1.1) : Int) then
 (Eng.asInt IntKind.i64 (Eng.getC x17.2.2.2.2.2.1.1 (Int.toNat x17.1.2.2.2.2.2.2.1) (0 : Nat)) False fun n18 =>
 (Eng.asInt IntKind.i64 (Eng.getC x17.2.2.2.2.2.1.1 (Int.toNat x17.1.2.2.2.2.2.2.1) (1 : Nat)) False fun n19 =>
 xright_Strip_1 n18 x17.2.1.1 x17.2.1.2.1 x17.2.1.2.2.1 x17.2.1.2.2.2.1 x17.2.1.2.2.2.2.1 (fun r20 r21 r22 r23 r24 r25 r26 r27 r28 r29 r30 r31 r32 =>
 (if (!r21) then
 K ((), (), (), ByteArray.mk #[], 0, ()) 8 r22 r23 [] true true [] true true [] true true r24 r25 r26 r27 r28 r29 r30 r31 r32
 else
 (if 0 ≤ x17.1.2.2.2.2.2.2.1 ∧ x17.1.2.2.2.2.2.2.1 < (↑(List.length x17.2.2.2.2.2.1.1) : Int) then
 (if x17.2.2.2.2.2.1.2.2 = false then
 (if Int.toNat x17.1.2.2.2.2.2.2.1 < List.length x17.2.2.2.2.2.1.1 then
 k16 ((((), (), ()), (), (), x17.1.2.2.2.1, (), x17.1.2.2.2.2.2.1, w64 (x17.1.2.2.2.2.2.2.1 + 1), ()), (r24, r27, r30, r22, r23, ()), ((), (), (), x17.2.2.1.2.2.2), ((), (), (), x17.2.2.2.1.2.2.2), x17.2.2.2.2.1, (List.set x17.2.2.2.2.2.1.1 (Int.toNat x17.1.2.2.2.2.2.2.1) (Eng.setE (List.getD x17.2.2.2.2.2.1.1 (Int.toNat x17.1.2.2.2.2.2.2.1) Eng.V.bad) (0 : Nat) [Eng.V.c (Value.int IntKind.i64 r20)]), x17.2.2.2.2.2.1.2), x17.2.2.2.2.2.2)
 else
 False)
 else
 False)
 else
 False)))))
 else
 False)
 else
 lp (Lright_moved_1_1 K a1 a2 a3 a4 a5 k16) (((), (), x17.1.2.2.2.1, (↑(List.length x17.2.2.2.2.2.1.1) : Int), 0, ()), x17.2.1, ((), (), (), x17.2.2.1.2.2.2), ((), (), (), x17.2.2.2.1.2.2.2), x17.2.2.2.2))
def Lright_moved_1_0p : Lp := ⟨114742, [.trim 114742, .thin 464, .trim 114742, .thin 465, .trim 114742, .thin 466, .trim 114742], pT122, pH121, 0⟩
def Yright_moved_1 (xzone_Copy : Tzone_Copy) (xright_Strip_1 : Tright_Strip_1) (a0 : Q15) (a1 : (List Eng.V)) (a2 : (List Eng.V)) (a3 : (List Eng.V)) (a4 : ByteArray) (a5 : Int) (K : Q100 → Int → ByteArray → Int → (List Eng.V) → Bool → Bool → (List Eng.V) → Bool → Bool → (List Eng.V) → Bool → Bool → (List Eng.V) → Bool → Bool → (List Eng.V) → Bool → Bool → (List Eng.V) → Bool → Bool → Prop) : Prop :=
 xzone_Copy a0 (fun r6 r7 r8 r9 r10 r11 r12 r13 r14 r15 =>
 lp (Lright_moved_1_0 xright_Strip_1 K a1 a2 a3 a4 a5) ((((), (), ()), (), (), 0, (), (↑(List.length r10) : Int), 0, ()), (a1, a2, a3, a4, a5, ()), ((), (), (), r6.2.2.2), ((), (), (), ByteArray.mk #[], 0, ()), (r7, r8, r9), (r10, r11, r12), (r13, r14, r15), ()))
def Xright_moved_1 : Tright_moved_1 := Yright_moved_1 Xzone_Copy Xright_Strip_1
def Jright_moved_1 (X : Tright_moved_1) : Inst := mkI 80 pL123 pH39 pL124 pH125 X
def Iright_moved_1 : Inst := Jright_moved_1 Xright_moved_1
theorem Eright_moved_1 (xzone_Copy : Tzone_Copy) (xright_Strip_1 : Tright_Strip_1) : EqF Tryz.prog 65 gives Tryz.f80 [Jzone_Copy xzone_Copy, Jright_Strip_1 xright_Strip_1] [Lright_moved_1_0p, Lright_moved_1_1p] (Jright_moved_1 (Yright_moved_1 xzone_Copy xright_Strip_1)) := fun x y K => by kernel_rfl
theorem Iright_moved_1_ok : InstOk Tryz.prog G.1 Iright_moved_1 := iok (gives := gives) [Lright_moved_1_0p, Lright_moved_1_1p] (okCons Izone_Copy_ok (okCons Iright_Strip_1_ok okNil)) 65 follows Tryz.func80 (by kernel_rfl) (fun x => by kernel_rfl) (Eright_moved_1 Xzone_Copy Xright_Strip_1)
abbrev Tright_Strip : Type := Q15 → (Q100 → Int → (List Eng.V) → Bool → Bool → (List Eng.V) → Bool → Bool → (List Eng.V) → Bool → Bool → Prop) → Prop
def Yright_Strip (xzone_Right : Tzone_Right) (xright_moved_1 : Tright_moved_1) (a0 : Q15) (K : Q100 → Int → (List Eng.V) → Bool → Bool → (List Eng.V) → Bool → Bool → (List Eng.V) → Bool → Bool → Prop) : Prop :=
 xzone_Right a0 (fun r1 =>
 (if (!r1) then
 K ((), (), (), ByteArray.mk #[], 0, ()) 1 [] true true [] true true [] true true
 else
 xright_moved_1 a0 a0.1 a0.2.1 a0.2.2.1 a0.2.2.2.1 a0.2.2.2.2.1 (fun r2 r3 r4 r5 r6 r7 r8 r9 r10 r11 r12 r13 r14 r15 r16 r17 r18 r19 r20 r21 r22 r23 =>
 K ((), (), (), r2.2.2.2) r3 r6 r7 r8 r9 r10 r11 [] true true)))
def Xright_Strip : Tright_Strip := Yright_Strip Xzone_Right Xright_moved_1
def Jright_Strip (X : Tright_Strip) : Inst := mkI 27 pL19 .nil pL117 pH102 X
def Iright_Strip : Inst := Jright_Strip Xright_Strip
theorem Eright_Strip (xzone_Right : Tzone_Right) (xright_moved_1 : Tright_moved_1) : EqF Tryz.prog 19 gives Tryz.f27 [Jzone_Right xzone_Right, Jright_moved_1 xright_moved_1] [] (Jright_Strip (Yright_Strip xzone_Right xright_moved_1)) := fun x y K => by kernel_rfl
theorem Iright_Strip_ok : InstOk Tryz.prog G.1 Iright_Strip := iok (gives := gives) [] (okCons Izone_Right_ok (okCons Iright_moved_1_ok okNil)) 19 follows Tryz.func27 (by kernel_rfl) (fun x => by kernel_rfl) (Eright_Strip Xzone_Right Xright_moved_1)
abbrev Tepactref12_Same : Type := (List Eng.V) → (List Eng.V) → (Bool → Prop) → Prop
def Lepactref12_Same_0 (K : Bool → Prop) : (Q126 → Prop) → Q126 → Prop := fun k2 x3 =>
 (if decide (x3.1.2.2.2.1 < (↑(List.length x3.1.1) : Int)) then
 (if 0 ≤ x3.1.2.2.2.1 ∧ x3.1.2.2.2.1 < (↑(List.length x3.1.1) : Int) then
 (Eng.asInt IntKind.i64 (Eng.getC x3.1.1 (Int.toNat x3.1.2.2.2.1) (0 : Nat)) False fun n4 =>
 (Eng.asInt IntKind.i64 (Eng.getC x3.1.1 (Int.toNat x3.1.2.2.2.1) (1 : Nat)) False fun n5 =>
 (if 0 ≤ x3.1.2.2.2.1 ∧ x3.1.2.2.2.1 < (↑(List.length x3.1.2.1) : Int) then
 (Eng.asInt IntKind.i64 (Eng.getC x3.1.2.1 (Int.toNat x3.1.2.2.2.1) (0 : Nat)) False fun n6 =>
 (Eng.asInt IntKind.i64 (Eng.getC x3.1.2.1 (Int.toNat x3.1.2.2.2.1) (1 : Nat)) False fun n7 =>
 (if (!(n4 == n6 && (n5 == n7 && true))) then
 K false
 else
 k2 ((x3.1.1, x3.1.2.1, x3.1.2.2.1, w64 (x3.1.2.2.2.1 + 1), ()), ()))))
 else
 False)))
 else
 False)
 else
 K true)
def Lepactref12_Same_0p : Lp := ⟨51, [.trim 51], pT127, .nil, 0⟩
def Yepactref12_Same (a0 : (List Eng.V)) (a1 : (List Eng.V)) (K : Bool → Prop) : Prop :=
 (if ((↑(List.length a0) : Int) != (↑(List.length a1) : Int)) then
 K false
 else
 lp (Lepactref12_Same_0 K) ((a0, a1, false, 0, ()), ()))
def Xepactref12_Same : Tepactref12_Same := Yepactref12_Same
def Jepactref12_Same (X : Tepactref12_Same) : Inst := mkI 38 pL128 .nil pL1 .nil X
def Iepactref12_Same : Inst := Jepactref12_Same Xepactref12_Same
theorem Eepactref12_Same : EqF Tryz.prog 26 gives Tryz.f38 [] [Lepactref12_Same_0p] (Jepactref12_Same (Yepactref12_Same)) := fun x y K => by kernel_rfl
theorem Iepactref12_Same_ok : InstOk Tryz.prog G.1 Iepactref12_Same := iok (gives := gives) [Lepactref12_Same_0p] okNil 26 follows Tryz.func38 (by kernel_rfl) (fun x => by kernel_rfl) (Eepactref12_Same)
abbrev Tepactref16_Same : Type := Q15 → Q15 → (Bool → Prop) → Prop
def Lepactref16_Same_1 (xepactref12_Same : Tepactref12_Same) (K : Bool → Prop) (k2 : Q129 → Prop) : (Q129 → Prop) → Q129 → Prop := fun k11 x12 =>
 (if decide (x12.1.2.2.2.1 < (↑(List.length x12.2.1.2.1) : Int)) then
 (if 0 ≤ x12.1.2.2.2.1 ∧ x12.1.2.2.2.1 < (↑(List.length x12.2.1.2.1) : Int) then
 (Eng.asInt IntKind.i64 (Eng.getC x12.2.1.2.1 (Int.toNat x12.1.2.2.2.1) (0 : Nat)) False fun n13 =>
 (Eng.asInt IntKind.i64 (Eng.getC x12.2.1.2.1 (Int.toNat x12.1.2.2.2.1) (1 : Nat)) False fun n14 =>
 (if 0 ≤ x12.1.2.2.2.1 ∧ x12.1.2.2.2.1 < (↑(List.length x12.2.2.1.2.1) : Int) then
 (Eng.asInt IntKind.i64 (Eng.getC x12.2.2.1.2.1 (Int.toNat x12.1.2.2.2.1) (0 : Nat)) False fun n15 =>
 (Eng.asInt IntKind.i64 (Eng.getC x12.2.2.1.2.1 (Int.toNat x12.1.2.2.2.1) (1 : Nat)) False fun n16 =>
 (if (!(n13 == n15 && (n14 == n16 && true))) then
 K false
 else
 k11 (((), (), x12.1.2.2.1, w64 (x12.1.2.2.2.1 + 1), ()), x12.2))))
 else
 False)))
 else
 False)
 else
 xepactref12_Same x12.2.1.2.2.1 x12.2.2.1.2.2.1 (fun r17 =>
 K r17))
def Lepactref16_Same_1p : Lp := ⟨92, [.trim 92], pT130, pH131, 0⟩
def Lepactref16_Same_0 (xepactref12_Same : Tepactref12_Same) (K : Bool → Prop) : (Q129 → Prop) → Q129 → Prop := fun k2 x3 =>
 (if decide (x3.1.2.2.2.1 < (↑(List.length x3.2.1.1) : Int)) then
 (if 0 ≤ x3.1.2.2.2.1 ∧ x3.1.2.2.2.1 < (↑(List.length x3.2.1.1) : Int) then
 (Eng.asInt IntKind.i64 (Eng.getC x3.2.1.1 (Int.toNat x3.1.2.2.2.1) (0 : Nat)) False fun n4 =>
 (Eng.asBool (Eng.getC x3.2.1.1 (Int.toNat x3.1.2.2.2.1) (1 : Nat)) False fun b5 =>
 (Eng.asStr (Eng.getC x3.2.1.1 (Int.toNat x3.1.2.2.2.1) (2 : Nat)) False fun t6 =>
 (if 0 ≤ x3.1.2.2.2.1 ∧ x3.1.2.2.2.1 < (↑(List.length x3.2.2.1.1) : Int) then
 (Eng.asInt IntKind.i64 (Eng.getC x3.2.2.1.1 (Int.toNat x3.1.2.2.2.1) (0 : Nat)) False fun n7 =>
 (Eng.asBool (Eng.getC x3.2.2.1.1 (Int.toNat x3.1.2.2.2.1) (1 : Nat)) False fun b8 =>
 (Eng.asStr (Eng.getC x3.2.2.1.1 (Int.toNat x3.1.2.2.2.1) (2 : Nat)) False fun t9 =>
 (lt (!(n4 == n7 && (b5 == b8 && (ByteArray.toList t6 == ByteArray.toList t9 && true)))) fun v10 =>
 (if v10 then
 K false
 else
 k2 (((), (), x3.1.2.2.1, w64 (x3.1.2.2.2.1 + 1), ()), x3.2))))))
 else
 False))))
 else
 False)
 else
 lp (Lepactref16_Same_1 xepactref12_Same K k2) (((), (), x3.1.2.2.1, 0, ()), x3.2))
def Lepactref16_Same_0p : Lp := ⟨60, [.trim 60], pT132, pH131, 0⟩
def Yepactref16_Same (xepactref12_Same : Tepactref12_Same) (a0 : Q15) (a1 : Q15) (K : Bool → Prop) : Prop :=
 (if ((↑(List.length a0.1) : Int) != (↑(List.length a1.1) : Int)) then
 K false
 else
 (if ((↑(List.length a0.2.1) : Int) != (↑(List.length a1.2.1) : Int)) then
 K false
 else
 (if (!ByteArray.toList a0.2.2.2.1 == ByteArray.toList a1.2.2.2.1) then
 K false
 else
 (if (a0.2.2.2.2.1 != a1.2.2.2.2.1) then
 K false
 else
 lp (Lepactref16_Same_0 xepactref12_Same K) (((), (), false, 0, ()), a0, a1, ())))))
def Xepactref16_Same : Tepactref16_Same := Yepactref16_Same Xepactref12_Same
def Jepactref16_Same (X : Tepactref16_Same) : Inst := mkI 29 pL133 .nil pL1 .nil X
def Iepactref16_Same : Inst := Jepactref16_Same Xepactref16_Same
theorem Eepactref16_Same (xepactref12_Same : Tepactref12_Same) : EqF Tryz.prog 78 gives Tryz.f29 [Jepactref12_Same xepactref12_Same] [Lepactref16_Same_0p, Lepactref16_Same_1p] (Jepactref16_Same (Yepactref16_Same xepactref12_Same)) := fun x y K => by kernel_rfl
theorem Iepactref16_Same_ok : InstOk Tryz.prog G.1 Iepactref16_Same := iok (gives := gives) [Lepactref16_Same_0p, Lepactref16_Same_1p] (okCons Iepactref12_Same_ok okNil) 78 follows Tryz.func29 (by kernel_rfl) (fun x => by kernel_rfl) (Eepactref16_Same Xepactref12_Same)
abbrev Tepactlaw21_small : Type := (Bool → Prop) → Prop
def Yepactlaw21_small (xright_Compile : Tright_Compile) (xright_Strip : Tright_Strip) (xright_Records : Tright_Records) (xright_Shift : Tright_Shift) (xepactref16_Same : Tepactref16_Same) (xright_Instant : Tright_Instant) (xepactref12_Same : Tepactref12_Same) (K : Bool → Prop) : Prop :=
 xright_Compile ([Eng.V.agg [Eng.V.c (Value.int IntKind.i64 (-18000)), Eng.V.c (Value.bool false), Eng.V.c (Value.string (ByteArray.mk #[(69 : UInt8), (83 : UInt8), (84 : UInt8)]))], Eng.V.agg [Eng.V.c (Value.int IntKind.i64 (-14400)), Eng.V.c (Value.bool true), Eng.V.c (Value.string (ByteArray.mk #[(69 : UInt8), (68 : UInt8), (84 : UInt8)]))]], [Eng.V.agg [Eng.V.c (Value.int IntKind.i64 5), Eng.V.c (Value.int IntKind.i64 1)], Eng.V.agg [Eng.V.c (Value.int IntKind.i64 78796799), Eng.V.c (Value.int IntKind.i64 0)], Eng.V.agg [Eng.V.c (Value.int IntKind.i64 78796801), Eng.V.c (Value.int IntKind.i64 1)], Eng.V.agg [Eng.V.c (Value.int IntKind.i64 100000000), Eng.V.c (Value.int IntKind.i64 0)]], [], ByteArray.mk #[], 2, ()) ([Eng.V.agg [Eng.V.c (Value.int IntKind.i64 911), Eng.V.c (Value.int IntKind.i64 1), Eng.V.c (Value.bool false)], Eng.V.agg [Eng.V.c (Value.int IntKind.i64 1095), Eng.V.c (Value.int IntKind.i64 1), Eng.V.c (Value.bool false)]], true, 200000000, ()) (fun r0 r1 r2 r3 r4 r5 r6 r7 r8 r9 r10 =>
 xright_Strip (r2, r5, r8, r0.2.2.2) (fun r11 r12 r13 r14 r15 r16 r17 r18 r19 r20 r21 =>
 (if ((↑(List.length r5) : Int) != 4) then
 K false
 else
 (if ((↑(List.length r8) : Int) != 3) then
 K false
 else
 xright_Records ([Eng.V.agg [Eng.V.c (Value.int IntKind.i64 (-18000)), Eng.V.c (Value.bool false), Eng.V.c (Value.string (ByteArray.mk #[(69 : UInt8), (83 : UInt8), (84 : UInt8)]))], Eng.V.agg [Eng.V.c (Value.int IntKind.i64 (-14400)), Eng.V.c (Value.bool true), Eng.V.c (Value.string (ByteArray.mk #[(69 : UInt8), (68 : UInt8), (84 : UInt8)]))]], [Eng.V.agg [Eng.V.c (Value.int IntKind.i64 5), Eng.V.c (Value.int IntKind.i64 1)], Eng.V.agg [Eng.V.c (Value.int IntKind.i64 78796799), Eng.V.c (Value.int IntKind.i64 0)], Eng.V.agg [Eng.V.c (Value.int IntKind.i64 78796801), Eng.V.c (Value.int IntKind.i64 1)], Eng.V.agg [Eng.V.c (Value.int IntKind.i64 100000000), Eng.V.c (Value.int IntKind.i64 0)]], [], ByteArray.mk #[], 2, ()) ([Eng.V.agg [Eng.V.c (Value.int IntKind.i64 911), Eng.V.c (Value.int IntKind.i64 1), Eng.V.c (Value.bool true)]], false, 0, ()) (fun r22 r23 r24 r25 =>
 xright_Shift ([Eng.V.agg [Eng.V.c (Value.int IntKind.i64 (-18000)), Eng.V.c (Value.bool false), Eng.V.c (Value.string (ByteArray.mk #[(69 : UInt8), (83 : UInt8), (84 : UInt8)]))], Eng.V.agg [Eng.V.c (Value.int IntKind.i64 (-14400)), Eng.V.c (Value.bool true), Eng.V.c (Value.string (ByteArray.mk #[(69 : UInt8), (68 : UInt8), (84 : UInt8)]))]], [Eng.V.agg [Eng.V.c (Value.int IntKind.i64 5), Eng.V.c (Value.int IntKind.i64 1)], Eng.V.agg [Eng.V.c (Value.int IntKind.i64 78796799), Eng.V.c (Value.int IntKind.i64 0)], Eng.V.agg [Eng.V.c (Value.int IntKind.i64 78796801), Eng.V.c (Value.int IntKind.i64 1)], Eng.V.agg [Eng.V.c (Value.int IntKind.i64 100000000), Eng.V.c (Value.int IntKind.i64 0)]], [], ByteArray.mk #[], 2, ()) ([Eng.V.agg [Eng.V.c (Value.int IntKind.i64 911), Eng.V.c (Value.int IntKind.i64 1), Eng.V.c (Value.bool false)], Eng.V.agg [Eng.V.c (Value.int IntKind.i64 1095), Eng.V.c (Value.int IntKind.i64 1), Eng.V.c (Value.bool false)]], true, 200000000, ()) 78796800 (fun r26 r27 =>
 xright_Compile (r2, r5, r8, r0.2.2.2) ([Eng.V.agg [Eng.V.c (Value.int IntKind.i64 911), Eng.V.c (Value.int IntKind.i64 1), Eng.V.c (Value.bool false)], Eng.V.agg [Eng.V.c (Value.int IntKind.i64 1095), Eng.V.c (Value.int IntKind.i64 1), Eng.V.c (Value.bool false)]], true, 200000000, ()) (fun r28 r29 r30 r31 r32 r33 r34 r35 r36 r37 r38 =>
 xright_Compile ([Eng.V.agg [Eng.V.c (Value.int IntKind.i64 (-18000)), Eng.V.c (Value.bool false), Eng.V.c (Value.string (ByteArray.mk #[(69 : UInt8), (83 : UInt8), (84 : UInt8)]))], Eng.V.agg [Eng.V.c (Value.int IntKind.i64 (-14400)), Eng.V.c (Value.bool true), Eng.V.c (Value.string (ByteArray.mk #[(69 : UInt8), (68 : UInt8), (84 : UInt8)]))]], [Eng.V.agg [Eng.V.c (Value.int IntKind.i64 78796799), Eng.V.c (Value.int IntKind.i64 0)], Eng.V.agg [Eng.V.c (Value.int IntKind.i64 78796800), Eng.V.c (Value.int IntKind.i64 1)]], [], ByteArray.mk #[], 2, ()) ([Eng.V.agg [Eng.V.c (Value.int IntKind.i64 911), Eng.V.c (Value.int IntKind.i64 (-1)), Eng.V.c (Value.bool false)]], false, 0, ()) (fun r39 r40 r41 r42 r43 r44 r45 r46 r47 r48 r49 =>
 xright_Shift ([Eng.V.agg [Eng.V.c (Value.int IntKind.i64 (-18000)), Eng.V.c (Value.bool false), Eng.V.c (Value.string (ByteArray.mk #[(69 : UInt8), (83 : UInt8), (84 : UInt8)]))], Eng.V.agg [Eng.V.c (Value.int IntKind.i64 (-14400)), Eng.V.c (Value.bool true), Eng.V.c (Value.string (ByteArray.mk #[(69 : UInt8), (68 : UInt8), (84 : UInt8)]))]], [Eng.V.agg [Eng.V.c (Value.int IntKind.i64 5), Eng.V.c (Value.int IntKind.i64 1)], Eng.V.agg [Eng.V.c (Value.int IntKind.i64 78796799), Eng.V.c (Value.int IntKind.i64 0)], Eng.V.agg [Eng.V.c (Value.int IntKind.i64 78796801), Eng.V.c (Value.int IntKind.i64 1)], Eng.V.agg [Eng.V.c (Value.int IntKind.i64 100000000), Eng.V.c (Value.int IntKind.i64 0)]], [], ByteArray.mk #[], 2, ()) ([Eng.V.agg [Eng.V.c (Value.int IntKind.i64 911), Eng.V.c (Value.int IntKind.i64 1), Eng.V.c (Value.bool false)], Eng.V.agg [Eng.V.c (Value.int IntKind.i64 1095), Eng.V.c (Value.int IntKind.i64 1), Eng.V.c (Value.bool false)]], true, 200000000, ()) 9223372036854775807 (fun r50 r51 =>
 (if (r1 == 0) then
 (if (0 :Int) ≤ 0 ∧ 0 < (↑(List.length r5) : Int) then
 (Eng.asInt IntKind.i64 (Eng.getC r5 (0 : Nat) (0 : Nat)) False fun n52 =>
 (if (n52 == 5) then
 (if (0 :Int) ≤ 1 ∧ 1 < (↑(List.length r5) : Int) then
 (Eng.asInt IntKind.i64 (Eng.getC r5 (1 : Nat) (0 : Nat)) False fun n53 =>
 (if (n53 == 78796799) then
 (if (0 :Int) ≤ 2 ∧ 2 < (↑(List.length r5) : Int) then
 (Eng.asInt IntKind.i64 (Eng.getC r5 (2 : Nat) (0 : Nat)) False fun n54 =>
 (if (n54 == 78796802) then
 (if (0 :Int) ≤ 3 ∧ 3 < (↑(List.length r5) : Int) then
 (Eng.asInt IntKind.i64 (Eng.getC r5 (3 : Nat) (0 : Nat)) False fun n55 =>
 (if (n55 == 100000002) then
 (if (r0.2.2.2.2.1 == 4) then
 (if (0 :Int) ≤ 2 ∧ 2 < (↑(List.length r8) : Int) then
 (Eng.asInt IntKind.i64 (Eng.getC r8 (2 : Nat) (0 : Nat)) False fun n56 =>
 (Eng.asInt IntKind.i64 (Eng.getC r8 (2 : Nat) (1 : Nat)) False fun n57 =>
 (if (n56 == 200000002 && (n57 == 2 && true)) then
 (if (r12 == 0) then
 xepactref16_Same (r13, r16, r19, r11.2.2.2.1, 2, ()) ([Eng.V.agg [Eng.V.c (Value.int IntKind.i64 (-18000)), Eng.V.c (Value.bool false), Eng.V.c (Value.string (ByteArray.mk #[(69 : UInt8), (83 : UInt8), (84 : UInt8)]))], Eng.V.agg [Eng.V.c (Value.int IntKind.i64 (-14400)), Eng.V.c (Value.bool true), Eng.V.c (Value.string (ByteArray.mk #[(69 : UInt8), (68 : UInt8), (84 : UInt8)]))]], [Eng.V.agg [Eng.V.c (Value.int IntKind.i64 5), Eng.V.c (Value.int IntKind.i64 1)], Eng.V.agg [Eng.V.c (Value.int IntKind.i64 78796799), Eng.V.c (Value.int IntKind.i64 0)], Eng.V.agg [Eng.V.c (Value.int IntKind.i64 78796801), Eng.V.c (Value.int IntKind.i64 1)], Eng.V.agg [Eng.V.c (Value.int IntKind.i64 100000000), Eng.V.c (Value.int IntKind.i64 0)]], [], ByteArray.mk #[], 2, ()) (fun r58 =>
 (if r58 then
 xright_Instant ([Eng.V.agg [Eng.V.c (Value.int IntKind.i64 (-18000)), Eng.V.c (Value.bool false), Eng.V.c (Value.string (ByteArray.mk #[(69 : UInt8), (83 : UInt8), (84 : UInt8)]))], Eng.V.agg [Eng.V.c (Value.int IntKind.i64 (-14400)), Eng.V.c (Value.bool true), Eng.V.c (Value.string (ByteArray.mk #[(69 : UInt8), (68 : UInt8), (84 : UInt8)]))]], [Eng.V.agg [Eng.V.c (Value.int IntKind.i64 5), Eng.V.c (Value.int IntKind.i64 1)], Eng.V.agg [Eng.V.c (Value.int IntKind.i64 78796799), Eng.V.c (Value.int IntKind.i64 0)], Eng.V.agg [Eng.V.c (Value.int IntKind.i64 78796801), Eng.V.c (Value.int IntKind.i64 1)], Eng.V.agg [Eng.V.c (Value.int IntKind.i64 100000000), Eng.V.c (Value.int IntKind.i64 0)]], [], ByteArray.mk #[], 2, ()) (911, 1, true, ()) (fun r59 =>
 (if (r59 == 78814800) then
 (if (r22 == 0) then
 xepactref12_Same r23 ([Eng.V.agg [Eng.V.c (Value.int IntKind.i64 78814800), Eng.V.c (Value.int IntKind.i64 1)]]) (fun r60 =>
 (if r60 then
 (if (r26 == 78796801) then
 (if r27 then
 (if (r29 == 1) then
 (if (r40 == 4) then
 K !r51
 else
 K false)
 else
 K false)
 else
 K false)
 else
 K false)
 else
 K false))
 else
 K false)
 else
 K false))
 else
 K false))
 else
 K false)
 else
 K false)))
 else
 False)
 else
 K false)
 else
 K false))
 else
 False)
 else
 K false))
 else
 False)
 else
 K false))
 else
 False)
 else
 K false))
 else
 False)
 else
 K false))))))))))
def Xepactlaw21_small : Tepactlaw21_small := Yepactlaw21_small Xright_Compile Xright_Strip Xright_Records Xright_Shift Xepactref16_Same Xright_Instant Xepactref12_Same
def Jepactlaw21_small (X : Tepactlaw21_small) : Inst := mkI 22 .nil .nil pL1 .nil X
def Iepactlaw21_small : Inst := Jepactlaw21_small Xepactlaw21_small
theorem Eepactlaw21_small (xright_Compile : Tright_Compile) (xright_Strip : Tright_Strip) (xright_Records : Tright_Records) (xright_Shift : Tright_Shift) (xepactref16_Same : Tepactref16_Same) (xright_Instant : Tright_Instant) (xepactref12_Same : Tepactref12_Same) : EqF Tryz.prog 186 gives Tryz.f22 [Jright_Compile xright_Compile, Jright_Strip xright_Strip, Jright_Records xright_Records, Jright_Shift xright_Shift, Jepactref16_Same xepactref16_Same, Jright_Instant xright_Instant, Jepactref12_Same xepactref12_Same] [] (Jepactlaw21_small (Yepactlaw21_small xright_Compile xright_Strip xright_Records xright_Shift xepactref16_Same xright_Instant xepactref12_Same)) := fun x y K => by kernel_rfl
theorem Iepactlaw21_small_ok : InstOk Tryz.prog G.1 Iepactlaw21_small := iok (gives := gives) [] (okCons Iright_Compile_ok (okCons Iright_Strip_ok (okCons Iright_Records_ok (okCons Iright_Shift_ok (okCons Iepactref16_Same_ok (okCons Iright_Instant_ok (okCons Iepactref12_Same_ok okNil))))))) 186 follows Tryz.func22 (by kernel_rfl) (fun x => by kernel_rfl) (Eepactlaw21_small Xright_Compile Xright_Strip Xright_Records Xright_Shift Xepactref16_Same Xright_Instant Xepactref12_Same)
abbrev Tepactlaw16_Few : Type := Q15 → (Bool → Prop) → Prop
def Lepactlaw16_Few_0 (K : Bool → Prop) : (Q134 → Prop) → Q134 → Prop := fun k1 x2 =>
 (if decide (x2.1.2.2.1 < (↑(List.length x2.2.1.1) : Int)) then
 (if decide (x2.1.2.2.1 < 100) then
 (if 0 ≤ x2.1.2.2.1 ∧ x2.1.2.2.1 < (↑(List.length x2.2.1.1) : Int) then
 (Eng.asStr (Eng.getC x2.2.1.1 (Int.toNat x2.1.2.2.1) (2 : Nat)) False fun t3 =>
 (if decide ((↑(ByteArray.size t3) : Int) > 100) then
 K false
 else
 k1 (((), x2.1.2.1, w64 (x2.1.2.2.1 + 1), ()), x2.2)))
 else
 False)
 else
 (if decide ((↑(List.length x2.2.1.1) : Int) ≤ 100) then
 (if decide ((↑(List.length x2.2.1.2.1) : Int) ≤ 300) then
 (if decide ((↑(List.length x2.2.1.2.2.1) : Int) ≤ 300) then
 K (decide ((↑(ByteArray.size x2.2.1.2.2.2.1) : Int) ≤ 200))
 else
 K false)
 else
 K false)
 else
 K false))
 else
 (if decide ((↑(List.length x2.2.1.1) : Int) ≤ 100) then
 (if decide ((↑(List.length x2.2.1.2.1) : Int) ≤ 300) then
 (if decide ((↑(List.length x2.2.1.2.2.1) : Int) ≤ 300) then
 K (decide ((↑(ByteArray.size x2.2.1.2.2.2.1) : Int) ≤ 200))
 else
 K false)
 else
 K false)
 else
 K false))
def Lepactlaw16_Few_0p : Lp := ⟨14, [.trim 14], pT135, pH136, 0⟩
def Yepactlaw16_Few (a0 : Q15) (K : Bool → Prop) : Prop :=
 lp (Lepactlaw16_Few_0 K) (((), false, 0, ()), a0, ())
def Xepactlaw16_Few : Tepactlaw16_Few := Yepactlaw16_Few
def Jepactlaw16_Few (X : Tepactlaw16_Few) : Inst := mkI 23 pL19 .nil pL1 .nil X
def Iepactlaw16_Few : Inst := Jepactlaw16_Few Xepactlaw16_Few
theorem Eepactlaw16_Few : EqF Tryz.prog 45 gives Tryz.f23 [] [Lepactlaw16_Few_0p] (Jepactlaw16_Few (Yepactlaw16_Few)) := fun x y K => by kernel_rfl
theorem Iepactlaw16_Few_ok : InstOk Tryz.prog G.1 Iepactlaw16_Few := iok (gives := gives) [Lepactlaw16_Few_0p] okNil 45 follows Tryz.func23 (by kernel_rfl) (fun x => by kernel_rfl) (Eepactlaw16_Few)
abbrev Tepactlaw09_Few : Type := Q70 → (Bool → Prop) → Prop
def Yepactlaw09_Few (a0 : Q70) (K : Bool → Prop) : Prop :=
 K (decide ((↑(List.length a0.1) : Int) ≤ 300))
def Xepactlaw09_Few : Tepactlaw09_Few := Yepactlaw09_Few
def Jepactlaw09_Few (X : Tepactlaw09_Few) : Inst := mkI 24 pL74 .nil pL1 .nil X
def Iepactlaw09_Few : Inst := Jepactlaw09_Few Xepactlaw09_Few
theorem Eepactlaw09_Few : EqF Tryz.prog 7 gives Tryz.f24 [] [] (Jepactlaw09_Few (Yepactlaw09_Few)) := fun x y K => by kernel_rfl
theorem Iepactlaw09_Few_ok : InstOk Tryz.prog G.1 Iepactlaw09_Few := iok (gives := gives) [] okNil 7 follows Tryz.func24 (by kernel_rfl) (fun x => by kernel_rfl) (Eepactlaw09_Few)
end Go.Proofs.YtenaflbcnkalbaaGreatDoor
end
