/- What the functions come to in plain data, with proofs, and what that answers. -/
import Derived.Test.YtbnpclndiichcaaGreatDoorE4
import Derived.Shelf.Small.Wraps
import Derived.Shelf.Strconv.Atoi
import Derived.Shelf.Strconv.Itoa0
import Derived.Shelf.Strconv.Itoa1
import Derived.Shelf.LaysM
import Derived.Shelf.Strconv.Itoa2
import Derived.Shelf.Strconv.Itoa3
import Derived.Shelf.Strconv.AtoiErrFast
import Derived.Shelf.Strconv.ParseIntEmpty
import Derived.Shelf.Strconv.AtoiFail
import Derived.Shelf.Strconv.Clone
import Derived.Shelf.Strconv.SyntaxError
import Derived.Shelf.LaysC
import Derived.Shelf.Strconv.ToError
import Derived.Shelf.Strconv.Lower
import Derived.Shelf.Strconv.ParseUint10
import Derived.Shelf.Strconv.ParseUint10Empty
import Derived.Shelf.Strconv.ParseUint10Any
import Derived.Shelf.Strconv.ParseInt10
import Derived.Shelf.Strconv.AtoiLong
import Derived.Shelf.Strconv.AtoiInnerAll
import Derived.Shelf.Strconv.RangeError
import Derived.Shelf.Strconv.ToErrorRange
import Derived.Shelf.Strconv.AtoiAll
import Derived.Shelf.Strconv.ErrVarAll
import Derived.Shelf.Strings.Search1
import Derived.Shelf.Strings.Search2
import Derived.Shelf.Strings.Search3
import Derived.Shelf.Strings.Cut
import Derived.Shelf.Strings.Shaped
import Derived.Shelf.Strings.Prefix
import Derived.Test.YtbnpclndiichcaaGreatDoorProg
import Derived.Lib.AppendIntMem
import Derived.Lib.ItoaMem
import Derived.Lib.ItoaNum
import Derived.Lib.AtoiErrMem
import Derived.Lib.LaidTab
section
set_option linter.unusedVariables false
set_option linter.unusedSimpArgs false
namespace Go.Proofs
open Go.Shelf
def Tryz.lays172_ren : Go.Shelf.Ren := ⟨fun | 172 => 234 | 244 => 252 | 245 => 253 | 247 => 264 | 279 => 265 | 280 => 266 | 281 => 267 | 282 => 268 | 287 => 274 | 316 => 275 | 171 => 147 | 205 => 276 | 321 => 277 | 322 => 278 | 243 => 188 | 246 => 218 | 283 => 242 | 284 => 243 | 285 => 244 | 286 => 245 | 129 => 259 | 317 => 258 | 318 => 260 | 319 => 261 | 320 => 262 | 337 => 272 | 338 => 273 | n => n, fun | 9 => 9 | 3 => 3 | 75 => 217 | 76 => 218 | 4 => 4 | 5 => 5 | 167 => 236 | 37 => 27 | 0 => 0 | 85 => 237 | 2 => 2 | 168 => 239 | 53 => 203 | 175 => 244 | 46 => 150 | 210 => 248 | 127 => 253 | 145 => 256 | 143 => 254 | 21 => 21 | 171 => 221 | 173 => 224 | 212 => 233 | 51 => 204 | 20 => 20 | 213 => 234 | 232 => 250 | 233 => 251 | 80 => 257 | n => n, fun | 15 => 2 | 16 => 3 | 17 => 1 | 18 => 4 | 19 => 5 | n => n⟩
theorem Tryz.lays172 : Go.Proofs.Lays.n172 Tryz.prog Tryz.lays172_ren := {
  mixed := by kernel_rfl
  f129 := Tryz.func259.trans (congrArg some (by kernel_rfl))
  f171 := Tryz.func147.trans (congrArg some (by kernel_rfl))
  f172 := Tryz.func234.trans (congrArg some (by kernel_rfl))
  f205 := Tryz.func276.trans (congrArg some (by kernel_rfl))
  f243 := Tryz.func188.trans (congrArg some (by kernel_rfl))
  f244 := Tryz.func252.trans (congrArg some (by kernel_rfl))
  f245 := Tryz.func253.trans (congrArg some (by kernel_rfl))
  f246 := Tryz.func218.trans (congrArg some (by kernel_rfl))
  f247 := Tryz.func264.trans (congrArg some (by kernel_rfl))
  f279 := Tryz.func265.trans (congrArg some (by kernel_rfl))
  f280 := Tryz.func266.trans (congrArg some (by kernel_rfl))
  f281 := Tryz.func267.trans (congrArg some (by kernel_rfl))
  f282 := Tryz.func268.trans (congrArg some (by kernel_rfl))
  f283 := Tryz.func242.trans (congrArg some (by kernel_rfl))
  f284 := Tryz.func243.trans (congrArg some (by kernel_rfl))
  f285 := Tryz.func244.trans (congrArg some (by kernel_rfl))
  f286 := Tryz.func245.trans (congrArg some (by kernel_rfl))
  f287 := Tryz.func274.trans (congrArg some (by kernel_rfl))
  f316 := Tryz.func275.trans (congrArg some (by kernel_rfl))
  f317 := Tryz.func258.trans (congrArg some (by kernel_rfl))
  f318 := Tryz.func260.trans (congrArg some (by kernel_rfl))
  f319 := Tryz.func261.trans (congrArg some (by kernel_rfl))
  f320 := Tryz.func262.trans (congrArg some (by kernel_rfl))
  f321 := Tryz.func277.trans (congrArg some (by kernel_rfl))
  f322 := Tryz.func278.trans (congrArg some (by kernel_rfl))
  f337 := Tryz.func272.trans (congrArg some (by kernel_rfl))
  f338 := Tryz.func273.trans (congrArg some (by kernel_rfl))
  t0 := Tryz.underlying0
  a0 := Tryz.isAgg0
  z0 := Tryz.sizeOf0
  v0 := Tryz.zeroValue0
  t2 := Tryz.underlying2
  a2 := Tryz.isAgg2
  z2 := Tryz.sizeOf2
  v2 := Tryz.zeroValue2
  t3 := Tryz.underlying3
  a3 := Tryz.isAgg3
  z3 := Tryz.sizeOf3
  v3 := Tryz.zeroValue3
  t4 := Tryz.underlying4
  a4 := Tryz.isAgg4
  z4 := Tryz.sizeOf4
  v4 := Tryz.zeroValue4
  t5 := Tryz.underlying5
  a5 := Tryz.isAgg5
  z5 := Tryz.sizeOf5
  v5 := Tryz.zeroValue5
  t9 := Tryz.underlying9
  a9 := Tryz.isAgg9
  z9 := Tryz.sizeOf9
  v9 := Tryz.zeroValue9
  t20 := Tryz.underlying20
  a20 := Tryz.isAgg20
  z20 := Tryz.sizeOf20
  v20 := Tryz.zeroValue20
  t21 := Tryz.underlying21
  a21 := Tryz.isAgg21
  z21 := Tryz.sizeOf21
  v21 := Tryz.zeroValue21
  t37 := Tryz.underlying27
  a37 := Tryz.isAgg27
  z37 := Tryz.sizeOf27
  v37 := Tryz.zeroValue27
  t46 := Tryz.underlying150
  a46 := Tryz.isAgg150
  z46 := Tryz.sizeOf150
  v46 := Tryz.zeroValue150
  t51 := Tryz.underlying204
  a51 := Tryz.isAgg204
  z51 := Tryz.sizeOf204
  v51 := Tryz.zeroValue204
  t53 := Tryz.underlying203
  a53 := Tryz.isAgg203
  z53 := Tryz.sizeOf203
  v53 := Tryz.zeroValue203
  t75 := Tryz.underlying217
  a75 := Tryz.isAgg217
  z75 := Tryz.sizeOf217
  v75 := Tryz.zeroValue217
  t76 := Tryz.underlying218
  a76 := Tryz.isAgg218
  z76 := Tryz.sizeOf218
  v76 := Tryz.zeroValue218
  t85 := Tryz.underlying237
  a85 := Tryz.isAgg237
  z85 := Tryz.sizeOf237
  v85 := Tryz.zeroValue237
  t127 := Tryz.underlying253
  a127 := Tryz.isAgg253
  z127 := Tryz.sizeOf253
  v127 := Tryz.zeroValue253
  t143 := Tryz.underlying254
  a143 := Tryz.isAgg254
  z143 := Tryz.sizeOf254
  v143 := Tryz.zeroValue254
  t145 := Tryz.underlying256
  a145 := Tryz.isAgg256
  z145 := Tryz.sizeOf256
  v145 := Tryz.zeroValue256
  t167 := Tryz.underlying236
  a167 := Tryz.isAgg236
  z167 := Tryz.sizeOf236
  v167 := Tryz.zeroValue236
  t168 := Tryz.underlying239
  a168 := Tryz.isAgg239
  z168 := Tryz.sizeOf239
  v168 := Tryz.zeroValue239
  t171 := Tryz.underlying221
  a171 := Tryz.isAgg221
  z171 := Tryz.sizeOf221
  v171 := Tryz.zeroValue221
  t173 := Tryz.underlying224
  a173 := Tryz.isAgg224
  z173 := Tryz.sizeOf224
  v173 := Tryz.zeroValue224
  t175 := Tryz.underlying244
  a175 := Tryz.isAgg244
  z175 := Tryz.sizeOf244
  v175 := Tryz.zeroValue244
  t210 := Tryz.underlying248
  a210 := Tryz.isAgg248
  z210 := Tryz.sizeOf248
  v210 := Tryz.zeroValue248
  t212 := Tryz.underlying233
  a212 := Tryz.isAgg233
  z212 := Tryz.sizeOf233
  v212 := Tryz.zeroValue233
  t213 := Tryz.underlying234
  a213 := Tryz.isAgg234
  z213 := Tryz.sizeOf234
  t232 := Tryz.underlying250
  a232 := Tryz.isAgg250
  z232 := Tryz.sizeOf250
  v232 := Tryz.zeroValue250
  t233 := Tryz.underlying251
  a233 := Tryz.isAgg251
  z233 := Tryz.sizeOf251
  v233 := Tryz.zeroValue251
  g15 := by kernel_rfl
  g16 := by kernel_rfl
  g17 := by kernel_rfl
  g18 := by kernel_rfl
  g19 := by kernel_rfl }
open Go.RowKit in
theorem Tryz.strconv_Atoi (s : ByteArray) (n : Int) (hl : s.size ≤ 18) (h : Lib.atoi s.data.toList = some n) (w : World) :
    Calls Tryz.prog 234 #[.string s] w fun e w' => e = .returned (.tuple #[.int .i64 n, .nilIface]) ∧ ∃ t, w' = Lib.bytesWorld w 5 t := Any.strconv_Atoi Tryz.lays172 s n hl h w
open Go.RowKit Go.Sort Go.Lib in
def Tryz.lays217_ren : Go.Shelf.Ren := ⟨fun | 217 => 219 | 266 => 246 | n => n, fun | 9 => 9 | 5 => 5 | 3 => 3 | n => n, fun | n => n⟩
theorem Tryz.lays217 : Go.Proofs.Lays.n217 Tryz.prog Tryz.lays217_ren := {
  mixed := by kernel_rfl
  f217 := Tryz.func219.trans (congrArg some (by kernel_rfl))
  f266 := Tryz.func246.trans (congrArg some (by kernel_rfl))
  t3 := Tryz.underlying3
  a3 := Tryz.isAgg3
  z3 := Tryz.sizeOf3
  v3 := Tryz.zeroValue3
  t5 := Tryz.underlying5
  a5 := Tryz.isAgg5
  z5 := Tryz.sizeOf5
  v5 := Tryz.zeroValue5
  t9 := Tryz.underlying9
  a9 := Tryz.isAgg9
  z9 := Tryz.sizeOf9
  v9 := Tryz.zeroValue9 }
open Go.RowKit Go.Lib in
theorem Tryz.stringslite_IndexByte (s : ByteArray) (c : Int) (w : World) :
    Calls Tryz.prog 219 #[.string s, .int .u8 c] w fun e w' => e = .returned (.int .i64 (Lib.indexByte s.data.toList c.toNat.toUInt8)) ∧ w' = w := Any.stringslite_IndexByte Tryz.lays217 s c w
end Go.Proofs
end
section
set_option linter.unusedVariables false
set_option linter.unusedSimpArgs false
namespace Go.Proofs.YtbnpclndiichcaaGreatDoor
open Go Go.Proofs.YtbnpclndiichcaaGreatDoor.Eng Go.RowKit
set_option linter.unusedVariables false
def gives : FuncId → Bool := fun g => Nat.beq g 143 || Nat.beq g (1000000 + 13) || Nat.beq g 3561190
theorem follows : Tryz.prog.follows .mixedOrders = true := by kernel_rfl
/-- Objects of memory that stay as they are, and hold a table. -/
abbrev Gs := {l : List (Nat × Obj) // ∀ w : World, (∀ x ∈ l, w.heap[x.1]? = some x.2) → Lib.TabIs Tryz.prog w "internal/strconv.uint64pow10" .u64 Lib.pow10Tab}
variable {G : Gs}
abbrev Tatoi : Type := ByteArray → (Int → Value → Prop) → Prop
abbrev TindexByte : Type := ByteArray → Int → (Int → Prop) → Prop
def Xatoi (s : ByteArray) (K : Int → Value → Prop) : Prop := ∃ n, s.size ≤ 18 ∧ Lib.atoi s.data.toList = some n ∧ K n .nilIface
def Jatoi (X : ByteArray → (Int → Value → Prop) → Prop) : Inst := ⟨234, (.cons .str .nil), .nil, (.cons (.int .i64) (.cons .val .nil)), .nil, fun x y K => X x.1 (fun u0 u1 => K (u0, (u1, ())) ())⟩
def Iatoi : Inst := Jatoi Xatoi
theorem Iatoi_ok : InstOk Tryz.prog G.1 Iatoi := fun ⟨s, _⟩ y K ⟨n, h1, h2, h3⟩ =>
  (told (args := [.string s]) (rs := [.int .i64 n, .nilIface]) rfl fun w _ => (Tryz.strconv_Atoi s n h1 h2 w).mono fun e w' ⟨he, t, hw⟩ => ⟨he, by subst hw; exact Lib.bytesWorld_below _ _ _⟩).mono fun rs h' ⟨e1, e2⟩ => ⟨(n, (.nilIface, ())), (), e1, e2, h3⟩
def XindexByte (s : ByteArray) (c : Int) (K : Int → Prop) : Prop := K (Lib.indexByte s.data.toList c.toNat.toUInt8)
def JindexByte (X : ByteArray → Int → (Int → Prop) → Prop) : Inst := ⟨219, (.cons .str (.cons (.int .u8) .nil)), .nil, (.cons (.int .i64) .nil), .nil, fun x y K => X x.1 x.2.1 (fun u0 => K (u0, ()) ())⟩
def IindexByte : Inst := JindexByte XindexByte
theorem IindexByte_ok : InstOk Tryz.prog G.1 IindexByte := fun ⟨s, c, _⟩ y K h3 =>
  (told (args := [.string s, .int .u8 c]) (rs := [.int .i64 (Lib.indexByte s.data.toList c.toNat.toUInt8)]) rfl fun w _ => (Tryz.stringslite_IndexByte s c w).mono fun e w' ⟨he, hw⟩ => ⟨he, by subst hw; exact Below.refl _ _⟩).mono fun rs h' ⟨e1, e2⟩ => ⟨(_, ()), (), e1, e2, h3⟩
theorem gs_of {w : World} (h : Lib.TabIs Tryz.prog w "internal/strconv.uint64pow10" .u64 Lib.pow10Tab) : ∃ G : Gs, ∀ x ∈ G.1, w.heap[x.1]? = some x.2 := by
  unfold Lib.TabIs World.var? at h
  cases hg : Tryz.prog.globalNamed "internal/strconv.uint64pow10" with
  | none => rw [hg] at h; cases h
  | some g =>
    rw [hg] at h
    simp only [Option.bind_some] at h
    cases ho : w.heap[g]? with
    | none => rw [ho] at h; cases h
    | some o =>
      rw [ho] at h
      refine ⟨⟨[(g, o)], fun w' hw => ?_⟩, fun x hx => ?_⟩
      · have := hw (g, o) (.head _)
        unfold Lib.TabIs World.var?
        rw [hg]
        simp only [Option.bind_some, this]
        exact h
      · simp only [List.mem_singleton] at hx
        subst hx; exact ho
theorem globN : Tryz.prog.globalNamed "internal/strconv.uint64pow10" = some 1 := by kernel_rfl
end Go.Proofs.YtbnpclndiichcaaGreatDoor
end
section
set_option linter.unusedVariables false
set_option linter.unusedSimpArgs false
namespace Go.Proofs.YtbnpclndiichcaaGreatDoor
open Go Go.Proofs.YtbnpclndiichcaaGreatDoor.Eng
set_option linter.unusedVariables false
set_option maxRecDepth 100000
set_option maxHeartbeats 4000000
variable {G : Gs}
abbrev pL0 : PL := (.cons (.int .i32) .nil)
abbrev pL1 : PL := (.cons .bool .nil)
abbrev Q2 : Type := ((Unit × Unit) × Bool × Int × Unit × Unit) × (ByteArray × Nat) × Unit
abbrev pT3 : PT := (.cons 1 (.fn (.func 144) .nil .nil) (.cons 2 .bool (.cons 6 (.int .i64) (.cons 10 (.it 224) .nil))))
abbrev pH4 : PH := (.cons 224 .iter .nil)
abbrev pL5 : PL := (.cons .str (.cons (.fn (.func 144) .nil .nil) (.cons .bool .nil)))
abbrev pL6 : PL := (.cons (.int .i64) .nil)
abbrev pL7 : PL := (.cons .str (.cons (.fn (.func 144) .nil .nil) .nil))
abbrev pL8 : PL := (.cons .str .nil)
abbrev Q9 : Type := (ByteArray × Unit × Bool × Unit × List Eng.V × Int × Int × Unit) × List (Go.Value × Eng.V) × List Eng.V × Unit
abbrev pT10 : PT := (.cons 2 .str (.cons 3 (.sla 816) (.cons 4 .bool (.cons 5 (.mp 224) (.cons 11 (.slN 1) (.cons 12 (.int .i64) (.cons 13 (.int .i64) .nil)))))))
abbrev pH11 : PH := (.cons 224 .mapI (.cons 816 (.arr 1 true false) .nil))
abbrev pL12 : PL := (.cons (.slN 1) .nil)
abbrev pL13 : PL := (.cons .str (.cons (.sla 0) (.cons .bool .nil)))
abbrev pH14 : PH := (.cons 0 (.arrB 1) .nil)
abbrev Q15 : Type := List Eng.V × List Eng.V × List Eng.V × ByteArray × Int × Unit
abbrev Q16 : Type := (ByteArray × Unit × Bool × Unit × List Eng.V × Int × Int × Unit) × List Eng.V × Unit
abbrev pT17 : PT := (.cons 2 .str (.cons 3 (.nl 0) (.cons 4 .bool (.cons 5 (.sla 480) (.cons 9 (.slN 3) (.cons 10 (.int .i64) (.cons 11 (.int .i64) .nil)))))))
abbrev pH18 : PH := (.cons 480 (.arr 1 true false) .nil)
abbrev pL19 : PL := (.cons (.agg (.cons (.slN 3) (.cons (.slN 2) (.cons (.slN 2) (.cons .str (.cons (.int .i64) .nil)))))) .nil)
abbrev pL20 : PL := (.cons (.int .i64) (.cons (.int .i64) (.cons (.int .i64) .nil)))
abbrev Q21 : Type := Int × Int × Int × Int × Int × Int × Int × Unit
abbrev pL22 : PL := (.cons (.agg (.cons (.int .i64) (.cons (.int .i64) (.cons (.int .i64) (.cons (.int .i64) (.cons (.int .i64) (.cons (.int .i64) (.cons (.int .i64) .nil)))))))) .nil)
abbrev pL23 : PL := (.cons (.agg (.cons (.int .i64) (.cons (.int .i64) (.cons (.int .i64) (.cons (.int .i64) (.cons (.int .i64) (.cons (.int .i64) (.cons (.int .i64) .nil)))))))) (.cons .bool .nil))
abbrev pL24 : PL := (.cons (.int .i64) (.cons (.int .i64) .nil))
abbrev pL25 : PL := (.cons (.int .i64) (.cons .bool .nil))
abbrev Q26 : Type := (List Eng.V × Int × Int × Unit × List Eng.V × Int × Int × Unit) × (Int × Int × Unit) × Unit
abbrev pT27 : PT := (.cons 0 (.slN 2) (.cons 2 (.int .i64) (.cons 3 (.int .i64) (.cons 4 (.ptr 128 0) (.cons 12 (.slN 2) (.cons 13 (.int .i64) (.cons 14 (.int .i64) .nil)))))))
abbrev pH28 : PH := (.cons 128 (.cells [.int .i64, .int .i64] (.cons (.int .i64) (.cons (.int .i64) .nil))) .nil)
abbrev pL29 : PL := (.cons (.slN 2) .nil)
abbrev pL30 : PL := (.cons (.sla 0) .nil)
abbrev pH31 : PH := (.cons 0 (.arrB 2) .nil)
abbrev Q32 : Type := Int × Bool × ByteArray × Unit
abbrev pL33 : PL := (.cons (.int .i64) (.cons (.agg (.cons (.int .i64) (.cons .bool (.cons .str .nil)))) .nil))
abbrev Q34 : Type := ((Unit × Unit) × Bool × List Eng.V × Int × Int × Unit) × Unit
abbrev pT35 : PT := (.cons 1 (.fn (.func 55) .nil .nil) (.cons 4 .bool (.cons 7 (.slN 3) (.cons 8 (.int .i64) (.cons 9 (.int .i64) .nil)))))
abbrev pL36 : PL := (.cons (.slN 3) (.cons (.fn (.func 55) .nil .nil) .nil))
abbrev Q37 : Type := Int × Int × Unit
abbrev pL38 : PL := (.cons (.int .i64) (.cons (.agg (.cons (.int .i64) (.cons (.int .i64) .nil))) (.cons (.ptr 0 0) .nil)))
abbrev pH39 : PH := (.cons 0 (.cells [.sl 3, .sl 2, .sl 2, .str, .int .i64] (.cons (.slN 3) (.cons (.slN 2) (.cons (.slN 2) (.cons .str (.cons (.int .i64) .nil)))))) .nil)
abbrev pH40 : PH := (.cons 0 (.cells [.sl 3, .sl 2, .sl 2, .str, .int .i64] (.cons (.sla 1) (.cons (.sla 2) (.cons (.sla 3) (.cons .str (.cons (.int .i64) .nil)))))) (.cons 1 (.arrB 3) (.cons 2 (.arrB 2) (.cons 3 (.arrB 2) .nil))))
abbrev Q41 : Type := ((Unit × Unit × Unit) × Bool × List Eng.V × Int × Int × Unit) × (List Eng.V × List Eng.V × List Eng.V × ByteArray × Int × Unit) × Unit
abbrev pT42 : PT := (.cons 1 (.fn (.func 57) .nil (.cons (.ptr 0 0) .nil)) (.cons 4 .bool (.cons 7 (.slN 2) (.cons 8 (.int .i64) (.cons 9 (.int .i64) .nil)))))
abbrev pL43 : PL := (.cons (.slN 2) (.cons (.fn (.func 57) .nil (.cons (.ptr 0 0) .nil)) .nil))
abbrev pL44 : PL := (.cons (.agg (.cons (.int .i64) (.cons .bool (.cons .str .nil)))) (.cons .bool .nil))
abbrev Q45 : Type := Int × Int × Int × Int × Int × Unit
abbrev pL46 : PL := (.cons (.agg (.cons (.int .i64) (.cons (.int .i64) (.cons (.int .i64) (.cons (.int .i64) (.cons (.int .i64) .nil)))))) .nil)
abbrev Q47 : Type := Int × Bool × ByteArray × Int × Bool × ByteArray × Bool × Int × Int × Int × Int × Int × Int × Int × Int × Int × Int × Unit
abbrev pL48 : PL := (.cons (.agg (.cons (.int .i64) (.cons .bool (.cons .str (.cons (.int .i64) (.cons .bool (.cons .str (.cons .bool (.cons (.int .i64) (.cons (.int .i64) (.cons (.int .i64) (.cons (.int .i64) (.cons (.int .i64) (.cons (.int .i64) (.cons (.int .i64) (.cons (.int .i64) (.cons (.int .i64) (.cons (.int .i64) .nil)))))))))))))))))) .nil)
abbrev pL49 : PL := (.cons .str (.cons .str .nil))
abbrev pL50 : PL := (.cons .str (.cons .bool .nil))
abbrev pL51 : PL := (.cons .str (.cons .str (.cons .bool .nil)))
abbrev pT52 : PT := (.cons 1 (.fn (.func 230) .nil .nil) (.cons 2 .bool (.cons 6 (.int .i64) (.cons 10 (.it 224) .nil))))
abbrev pL53 : PL := (.cons .str (.cons (.fn (.func 230) .nil .nil) (.cons .bool .nil)))
abbrev pL54 : PL := (.cons .str (.cons (.fn (.func 230) .nil .nil) .nil))
abbrev pL55 : PL := (.cons (.ptr 0 0) .nil)
abbrev pH56 : PH := (.cons 0 (.cells [.str, .int .i64, .bool, .str, .int .i64, .bool, .str, .bool, .int .i64, .int .i64, .int .i64, .int .i64, .int .i64, .int .i64, .int .i64, .int .i64, .int .i64, .int .i64] (.cons .str (.cons (.int .i64) (.cons .bool (.cons .str (.cons (.int .i64) (.cons .bool (.cons .str (.cons .bool (.cons (.int .i64) (.cons (.int .i64) (.cons (.int .i64) (.cons (.int .i64) (.cons (.int .i64) (.cons (.int .i64) (.cons (.int .i64) (.cons (.int .i64) (.cons (.int .i64) (.cons (.int .i64) .nil))))))))))))))))))) .nil)
abbrev Q57 : Type := (ByteArray × Int × Unit × Unit) × (ByteArray × Nat) × Unit
abbrev pT58 : PT := (.cons 0 .str (.cons 2 (.int .i64) (.cons 6 (.it 160) .nil)))
abbrev pH59 : PH := (.cons 160 .iter .nil)
abbrev pL60 : PL := (.cons (.int .i64) (.cons .str (.cons .bool .nil)))
abbrev pL61 : PL := (.cons .str (.cons (.int .i64) .nil))
abbrev pL62 : PL := (.cons (.agg (.cons (.int .i64) (.cons (.int .i64) (.cons (.int .i64) (.cons (.int .i64) (.cons (.int .i64) .nil)))))) (.cons .str (.cons .bool .nil)))
abbrev pL63 : PL := (.cons (.ptr 0 0) (.cons (.ptr 0 8) .nil))
abbrev pL64 : PL := (.cons (.ptr 0 0) (.cons (.ptr 0 13) .nil))
abbrev pL65 : PL := (.cons (.agg (.cons (.int .i64) (.cons .bool (.cons .str (.cons (.int .i64) (.cons .bool (.cons .str (.cons .bool (.cons (.int .i64) (.cons (.int .i64) (.cons (.int .i64) (.cons (.int .i64) (.cons (.int .i64) (.cons (.int .i64) (.cons (.int .i64) (.cons (.int .i64) (.cons (.int .i64) (.cons (.int .i64) .nil)))))))))))))))))) (.cons .bool .nil))
abbrev pL66 : PL := (.cons (.int .i64) (.cons (.ptr 0 0) (.cons (.ptr 1 0) .nil)))
abbrev pH67 : PH := (.cons 0 (.cells [.sl 3, .sl 2, .sl 2, .str, .int .i64] (.cons (.slN 3) (.cons (.slN 2) (.cons (.slN 2) (.cons .str (.cons (.int .i64) .nil)))))) (.cons 1 (.cells [.int .i64] (.cons (.int .i64) .nil)) .nil))
abbrev pH68 : PH := (.cons 0 (.cells [.sl 3, .sl 2, .sl 2, .str, .int .i64] (.cons (.sla 2) (.cons (.sla 3) (.cons (.sla 4) (.cons .str (.cons (.int .i64) .nil)))))) (.cons 1 (.cells [.int .i64] (.cons (.int .i64) .nil)) (.cons 2 (.arrB 3) (.cons 3 (.arrB 2) (.cons 4 (.arrB 2) .nil)))))
abbrev Q69 : Type := ((Unit × Unit × Unit × Unit) × Int × Int × Int × Unit) × (List Eng.V × List Eng.V × List Eng.V × ByteArray × Int × Unit) × (Int × Unit) × Unit
abbrev pT70 : PT := (.cons 1 (.fn (.func 117) .nil (.cons (.ptr 0 0) (.cons (.ptr 1 0) .nil))) (.cons 4 (.int .i64) (.cons 5 (.int .i64) (.cons 6 (.int .i64) .nil))))
abbrev pL71 : PL := (.cons (.int .i64) (.cons (.fn (.func 117) .nil (.cons (.ptr 0 0) (.cons (.ptr 1 0) .nil))) .nil))
abbrev pL72 : PL := (.cons (.agg (.cons (.slN 3) (.cons (.slN 2) (.cons (.slN 2) (.cons .str (.cons (.int .i64) .nil)))))) (.cons (.int .i64) .nil))
abbrev pH73 : PH := (.cons 0 (.cells [.sl 2] (.cons (.sla 2) .nil)) (.cons 1 (.cells [.int .i64] (.cons (.int .i64) .nil)) (.cons 2 (.arrB 2) .nil)))
abbrev pH74 : PH := (.cons 0 (.cells [.sl 2] (.cons (.slN 2) .nil)) (.cons 1 (.cells [.int .i64] (.cons (.int .i64) .nil)) .nil))
abbrev Q75 : Type := ((Unit × Unit × Unit × Unit) × Int × Int × Int × Unit) × (List Eng.V × Unit) × (Int × Unit) × (List Eng.V × Bool × Bool) × Unit
abbrev pT76 : PT := (.cons 1 (.fn (.func 180) .nil (.cons (.ptr 0 0) (.cons (.ptr 1 0) .nil))) (.cons 4 (.int .i64) (.cons 5 (.int .i64) (.cons 6 (.int .i64) .nil))))
abbrev pH77 : PH := (.cons 0 (.cells [.sl 2] (.cons (.slN 2) .nil)) (.cons 1 (.cells [.int .i64] (.cons (.int .i64) .nil)) (.cons 2 (.arrB 2) .nil)))
abbrev pL78 : PL := (.cons (.int .i64) (.cons (.fn (.func 180) .nil (.cons (.ptr 0 0) (.cons (.ptr 1 0) .nil))) .nil))
abbrev pL79 : PL := (.cons (.slN 2) (.cons (.int .i64) .nil))
abbrev pL80 : PL := (.cons (.int .i64) (.cons (.int .i64) (.cons .bool .nil)))
abbrev pL81 : PL := (.cons (.int .i64) (.cons (.int .i64) (.cons (.int .i64) (.cons .bool .nil))))
abbrev pL82 : PL := (.cons (.agg (.cons (.int .i64) (.cons (.int .i64) (.cons (.int .i64) (.cons (.int .i64) (.cons (.int .i64) .nil)))))) (.cons (.int .i64) .nil))
abbrev pL83 : PL := (.cons (.agg (.cons (.int .i64) (.cons .bool (.cons .str (.cons (.int .i64) (.cons .bool (.cons .str (.cons .bool (.cons (.int .i64) (.cons (.int .i64) (.cons (.int .i64) (.cons (.int .i64) (.cons (.int .i64) (.cons (.int .i64) (.cons (.int .i64) (.cons (.int .i64) (.cons (.int .i64) (.cons (.int .i64) .nil)))))))))))))))))) (.cons (.int .i64) .nil))
abbrev pL84 : PL := (.cons (.agg (.cons (.int .i64) (.cons .bool (.cons .str .nil)))) .nil)
abbrev Q127 : Type := (Unit × Bool × Int × Unit) × (List Eng.V × List Eng.V × List Eng.V × ByteArray × Int × Unit) × Unit
abbrev pT128 : PT := (.cons 1 (.ptr 80 0) (.cons 2 .bool (.cons 3 (.int .i64) .nil)))
abbrev pH129 : PH := (.cons 80 (.cells [.sl 3, .sl 2, .sl 2, .str, .int .i64] (.cons (.slN 3) (.cons (.slN 2) (.cons (.slN 2) (.cons .str (.cons (.int .i64) .nil)))))) .nil)
abbrev Tabbr_good : Type := Int → (Bool → Prop) → Prop
def Yabbr_good (a0 : Int) (K : Bool → Prop) : Prop :=
 (if decide (a0 ≥ 97) then
 (if decide (a0 ≤ 122) then
 K true
 else
 (if decide (a0 ≥ 65) then
 (if decide (a0 ≤ 90) then
 K true
 else
 (if decide (a0 ≥ 48) then
 (if decide (a0 ≤ 57) then
 K true
 else
 (if (a0 == 43) then
 K true
 else
 K (a0 == 45)))
 else
 (if (a0 == 43) then
 K true
 else
 K (a0 == 45))))
 else
 (if decide (a0 ≥ 48) then
 (if decide (a0 ≤ 57) then
 K true
 else
 (if (a0 == 43) then
 K true
 else
 K (a0 == 45)))
 else
 (if (a0 == 43) then
 K true
 else
 K (a0 == 45)))))
 else
 (if decide (a0 ≥ 65) then
 (if decide (a0 ≤ 90) then
 K true
 else
 (if decide (a0 ≥ 48) then
 (if decide (a0 ≤ 57) then
 K true
 else
 (if (a0 == 43) then
 K true
 else
 K (a0 == 45)))
 else
 (if (a0 == 43) then
 K true
 else
 K (a0 == 45))))
 else
 (if decide (a0 ≥ 48) then
 (if decide (a0 ≤ 57) then
 K true
 else
 (if (a0 == 43) then
 K true
 else
 K (a0 == 45)))
 else
 (if (a0 == 43) then
 K true
 else
 K (a0 == 45)))))
def Xabbr_good : Tabbr_good := Yabbr_good
def Jabbr_good (X : Tabbr_good) : Inst := mkI 145 pL0 .nil pL1 .nil X
def Iabbr_good : Inst := Jabbr_good Xabbr_good
theorem Eabbr_good : EqF Tryz.prog 33 gives Tryz.f145 [] [] (Jabbr_good (Yabbr_good)) := fun x y K => by kernel_rfl
theorem Iabbr_good_ok : InstOk Tryz.prog G.1 Iabbr_good := iok (gives := gives) [] okNil 33 follows Tryz.func145 (by kernel_rfl) (fun x => by kernel_rfl) (Eabbr_good)
abbrev Tabbr_Right_1 : Type := Int → (Bool → Prop) → Prop
def Yabbr_Right_1 (xabbr_good : Tabbr_good) (a0 : Int) (K : Bool → Prop) : Prop :=
 xabbr_good a0 (fun r1 =>
 K !r1)
def Xabbr_Right_1 : Tabbr_Right_1 := Yabbr_Right_1 Xabbr_good
def Jabbr_Right_1 (X : Tabbr_Right_1) : Inst := mkI 144 pL0 .nil pL1 .nil X
def Iabbr_Right_1 : Inst := Jabbr_Right_1 Xabbr_Right_1
theorem Eabbr_Right_1 (xabbr_good : Tabbr_good) : EqF Tryz.prog 6 gives Tryz.f144 [Jabbr_good xabbr_good] [] (Jabbr_Right_1 (Yabbr_Right_1 xabbr_good)) := fun x y K => by kernel_rfl
theorem Iabbr_Right_1_ok : InstOk Tryz.prog G.1 Iabbr_Right_1 := iok (gives := gives) [] (okCons Iabbr_good_ok okNil) 6 follows Tryz.func144 (by kernel_rfl) (fun x => by kernel_rfl) (Eabbr_Right_1 Xabbr_good)
abbrev Tstrings_indexFunc : Type := ByteArray → Bool → (Int → Prop) → Prop
def Lstrings_indexFunc_0 (xabbr_Right_1 : Tabbr_Right_1) (K : Int → Prop) : (Q2 → Prop) → Q2 → Prop := fun k2 x3 =>
 (if x3.2.1.2 < ByteArray.size x3.2.1.1 then
 xabbr_Right_1 (↑(Prod.fst (Go.Utf8.decode x3.2.1.1 x3.2.1.2)) : Int) (fun r4 =>
 (if (r4 == x3.1.2.1) then
 K (↑(x3.2.1.2) : Int)
 else
 k2 ((((), ()), x3.1.2.1, x3.1.2.2.1, (), ()), (x3.2.1.1, x3.2.1.2 + Prod.snd (Go.Utf8.decode x3.2.1.1 x3.2.1.2)), ())))
 else
 K (-1))
def Lstrings_indexFunc_0p : Lp := ⟨1094, [.trim 1094], pT3, pH4, 0⟩
def Ystrings_indexFunc (xabbr_Right_1 : Tabbr_Right_1) (a0 : ByteArray) (a1 : Bool) (K : Int → Prop) : Prop :=
 lp (Lstrings_indexFunc_0 xabbr_Right_1 K) ((((), ()), a1, 0, (), ()), (a0, (0 : Nat)), ())
def Xstrings_indexFunc : Tstrings_indexFunc := Ystrings_indexFunc Xabbr_Right_1
def Jstrings_indexFunc (X : Tstrings_indexFunc) : Inst := mkI 217 pL5 .nil pL6 .nil X
def Istrings_indexFunc : Inst := Jstrings_indexFunc Xstrings_indexFunc
theorem Estrings_indexFunc (xabbr_Right_1 : Tabbr_Right_1) : EqF Tryz.prog 21 gives Tryz.f217 [Jabbr_Right_1 xabbr_Right_1] [Lstrings_indexFunc_0p] (Jstrings_indexFunc (Ystrings_indexFunc xabbr_Right_1)) := fun x y K => by kernel_rfl
theorem Istrings_indexFunc_ok : InstOk Tryz.prog G.1 Istrings_indexFunc := iok (gives := gives) [Lstrings_indexFunc_0p] (okCons Iabbr_Right_1_ok okNil) 21 follows Tryz.func217 (by kernel_rfl) (fun x => by kernel_rfl) (Estrings_indexFunc Xabbr_Right_1)
abbrev Tstrings_IndexFunc : Type := ByteArray → (Int → Prop) → Prop
def Ystrings_IndexFunc (xstrings_indexFunc : Tstrings_indexFunc) (a0 : ByteArray) (K : Int → Prop) : Prop :=
 xstrings_indexFunc a0 true (fun r1 =>
 K r1)
def Xstrings_IndexFunc : Tstrings_IndexFunc := Ystrings_IndexFunc Xstrings_indexFunc
def Jstrings_IndexFunc (X : Tstrings_IndexFunc) : Inst := mkI 187 pL7 .nil pL6 .nil X
def Istrings_IndexFunc : Inst := Jstrings_IndexFunc Xstrings_IndexFunc
theorem Estrings_IndexFunc (xstrings_indexFunc : Tstrings_indexFunc) : EqF Tryz.prog 8 gives Tryz.f187 [Jstrings_indexFunc xstrings_indexFunc] [] (Jstrings_IndexFunc (Ystrings_IndexFunc xstrings_indexFunc)) := fun x y K => by kernel_rfl
theorem Istrings_IndexFunc_ok : InstOk Tryz.prog G.1 Istrings_IndexFunc := iok (gives := gives) [] (okCons Istrings_indexFunc_ok okNil) 8 follows Tryz.func187 (by kernel_rfl) (fun x => by kernel_rfl) (Estrings_IndexFunc Xstrings_indexFunc)
abbrev Tstrings_ContainsFunc : Type := ByteArray → (Bool → Prop) → Prop
def Ystrings_ContainsFunc (xstrings_IndexFunc : Tstrings_IndexFunc) (a0 : ByteArray) (K : Bool → Prop) : Prop :=
 xstrings_IndexFunc a0 (fun r1 =>
 K (decide (r1 ≥ 0)))
def Xstrings_ContainsFunc : Tstrings_ContainsFunc := Ystrings_ContainsFunc Xstrings_IndexFunc
def Jstrings_ContainsFunc (X : Tstrings_ContainsFunc) : Inst := mkI 146 pL7 .nil pL1 .nil X
def Istrings_ContainsFunc : Inst := Jstrings_ContainsFunc Xstrings_ContainsFunc
theorem Estrings_ContainsFunc (xstrings_IndexFunc : Tstrings_IndexFunc) : EqF Tryz.prog 9 gives Tryz.f146 [Jstrings_IndexFunc xstrings_IndexFunc] [] (Jstrings_ContainsFunc (Ystrings_ContainsFunc xstrings_IndexFunc)) := fun x y K => by kernel_rfl
theorem Istrings_ContainsFunc_ok : InstOk Tryz.prog G.1 Istrings_ContainsFunc := iok (gives := gives) [] (okCons Istrings_IndexFunc_ok okNil) 9 follows Tryz.func146 (by kernel_rfl) (fun x => by kernel_rfl) (Estrings_ContainsFunc Xstrings_IndexFunc)
abbrev Tabbr_Right : Type := ByteArray → (Bool → Prop) → Prop
def Yabbr_Right (xstrings_ContainsFunc : Tstrings_ContainsFunc) (a0 : ByteArray) (K : Bool → Prop) : Prop :=
 (if decide ((↑(ByteArray.size a0) : Int) ≥ 3) then
 (if decide ((↑(ByteArray.size a0) : Int) ≤ 16) then
 xstrings_ContainsFunc a0 (fun r1 =>
 K !r1)
 else
 K false)
 else
 K false)
def Xabbr_Right : Tabbr_Right := Yabbr_Right Xstrings_ContainsFunc
def Jabbr_Right (X : Tabbr_Right) : Inst := mkI 83 pL8 .nil pL1 .nil X
def Iabbr_Right : Inst := Jabbr_Right Xabbr_Right
theorem Eabbr_Right (xstrings_ContainsFunc : Tstrings_ContainsFunc) : EqF Tryz.prog 18 gives Tryz.f83 [Jstrings_ContainsFunc xstrings_ContainsFunc] [] (Jabbr_Right (Yabbr_Right xstrings_ContainsFunc)) := fun x y K => by kernel_rfl
theorem Iabbr_Right_ok : InstOk Tryz.prog G.1 Iabbr_Right := iok (gives := gives) [] (okCons Istrings_ContainsFunc_ok okNil) 18 follows Tryz.func83 (by kernel_rfl) (fun x => by kernel_rfl) (Eabbr_Right Xstrings_ContainsFunc)
abbrev Tabbr_Pool : Type := (List Eng.V) → (ByteArray → Bool → (List Eng.V) → Bool → Bool → Prop) → Prop
def Labbr_Pool_0 (xabbr_Right : Tabbr_Right) (K : ByteArray → Bool → (List Eng.V) → Bool → Bool → Prop) : (Q9 → Prop) → Q9 → Prop := fun k1 x2 =>
 (if decide (x2.1.2.2.2.2.2.2.1 < x2.1.2.2.2.2.2.1) then
 (if 0 ≤ x2.1.2.2.2.2.2.2.1 ∧ x2.1.2.2.2.2.2.2.1 < (↑(List.length x2.1.2.2.2.2.1) : Int) then
 (Eng.asStr (Eng.getC x2.1.2.2.2.2.1 (Int.toNat x2.1.2.2.2.2.2.2.1) (0 : Nat)) False fun t3 =>
 xabbr_Right t3 (fun r4 =>
 (if (!r4) then
 K (ByteArray.mk #[]) false [] true true
 else
 (Eng.asMpI IntKind.i64 (Eng.mpGet t3 x2.2.1) False fun n5 n6 =>
 (if (!n6) then
 (if Option.isSome (Eng.mpGet t3 x2.2.1) then
 (if (↑(ByteArray.size t3 + (1 : Nat)) : Int) > 9223372036854775807 then
 False
 else
 (if (↑(ByteArray.size x2.1.1 + ByteArray.size (t3 ++ ByteArray.mk #[(0 : UInt8)])) : Int) > 9223372036854775807 then
 False
 else
 (lt (x2.1.1 ++ (t3 ++ ByteArray.mk #[(0 : UInt8)])) fun v7 =>
 (if Eng.roomOk (List.length x2.2.2.1 + List.length [Eng.V.c (Value.int IntKind.i64 (↑(ByteArray.size x2.1.1) : Int))]) (8 : Nat) then
 k1 ((v7, (), x2.1.2.2.1, (), x2.1.2.2.2.2.1, x2.1.2.2.2.2.2.1, w64 (x2.1.2.2.2.2.2.2.1 + 1), ()), Eng.mpPut t3 (Eng.V.c (Value.int IntKind.i64 (↑(ByteArray.size x2.1.1) : Int))) x2.2.1, x2.2.2.1 ++ [Eng.V.c (Value.int IntKind.i64 (↑(ByteArray.size x2.1.1) : Int))], ())
 else
 False))))
 else
 False)
 else
 (if Eng.roomOk (List.length x2.2.2.1 + List.length [Eng.V.c (Value.int IntKind.i64 n5)]) (8 : Nat) then
 k1 ((x2.1.1, (), x2.1.2.2.1, (), x2.1.2.2.2.2.1, x2.1.2.2.2.2.2.1, w64 (x2.1.2.2.2.2.2.2.1 + 1), ()), x2.2.1, x2.2.2.1 ++ [Eng.V.c (Value.int IntKind.i64 n5)], ())
 else
 False))))))
 else
 False)
 else
 (if decide ((↑(ByteArray.size x2.1.1) : Int) > 256) then
 K (ByteArray.mk #[]) false [] true true
 else
 K x2.1.1 true x2.2.2.1 true false))
def Labbr_Pool_0p : Lp := ⟨14396, [.trim 14396, .fat 3 1 816, .trim 14396], pT10, pH11, 0⟩
def Yabbr_Pool (xabbr_Right : Tabbr_Right) (a0 : (List Eng.V)) (K : ByteArray → Bool → (List Eng.V) → Bool → Bool → Prop) : Prop :=
 lp (Labbr_Pool_0 xabbr_Right K) ((ByteArray.mk #[], (), false, (), a0, (↑(List.length a0) : Int), 0, ()), [], [], ())
def Xabbr_Pool : Tabbr_Pool := Yabbr_Pool Xabbr_Right
def Jabbr_Pool (X : Tabbr_Pool) : Inst := mkI 124 pL12 .nil pL13 pH14 X
def Iabbr_Pool : Inst := Jabbr_Pool Xabbr_Pool
theorem Eabbr_Pool (xabbr_Right : Tabbr_Right) : EqF Tryz.prog 47 gives Tryz.f124 [Jabbr_Right xabbr_Right] [Labbr_Pool_0p] (Jabbr_Pool (Yabbr_Pool xabbr_Right)) := fun x y K => by kernel_rfl
theorem Iabbr_Pool_ok : InstOk Tryz.prog G.1 Iabbr_Pool := iok (gives := gives) [Labbr_Pool_0p] (okCons Iabbr_Right_ok okNil) 47 follows Tryz.func124 (by kernel_rfl) (fun x => by kernel_rfl) (Eabbr_Pool Xabbr_Right)
abbrev Tblock_pool : Type := Q15 → (ByteArray → Bool → (List Eng.V) → Bool → Bool → Prop) → Prop
def Lblock_pool_0 (xabbr_Pool : Tabbr_Pool) (K : ByteArray → Bool → (List Eng.V) → Bool → Bool → Prop) : (Q16 → Prop) → Q16 → Prop := fun k1 x2 =>
 (if decide (x2.1.2.2.2.2.2.2.1 < x2.1.2.2.2.2.2.1) then
 (if 0 ≤ x2.1.2.2.2.2.2.2.1 ∧ x2.1.2.2.2.2.2.2.1 < (↑(List.length x2.1.2.2.2.2.1) : Int) then
 (Eng.asInt IntKind.i64 (Eng.getC x2.1.2.2.2.2.1 (Int.toNat x2.1.2.2.2.2.2.2.1) (0 : Nat)) False fun n3 =>
 (Eng.asBool (Eng.getC x2.1.2.2.2.2.1 (Int.toNat x2.1.2.2.2.2.2.2.1) (1 : Nat)) False fun b4 =>
 (Eng.asStr (Eng.getC x2.1.2.2.2.2.1 (Int.toNat x2.1.2.2.2.2.2.2.1) (2 : Nat)) False fun t5 =>
 (if Eng.roomOk (List.length x2.2.1 + List.length [Eng.V.c (Value.string t5)]) (16 : Nat) then
 k1 ((x2.1.1, (), x2.1.2.2.1, (), x2.1.2.2.2.2.1, x2.1.2.2.2.2.2.1, w64 (x2.1.2.2.2.2.2.2.1 + 1), ()), x2.2.1 ++ [Eng.V.c (Value.string t5)], ())
 else
 False))))
 else
 False)
 else
 xabbr_Pool x2.2.1 (fun r6 r7 r8 r9 r10 =>
 K r6 r7 r8 r9 r10))
def Lblock_pool_0p : Lp := ⟨3644, [.trim 3644, .fat 5 1 480, .trim 3644], pT17, pH18, 0⟩
def Yblock_pool (xabbr_Pool : Tabbr_Pool) (a0 : Q15) (K : ByteArray → Bool → (List Eng.V) → Bool → Bool → Prop) : Prop :=
 lp (Lblock_pool_0 xabbr_Pool K) ((ByteArray.mk #[], (), false, (), a0.1, (↑(List.length a0.1) : Int), 0, ()), [], ())
def Xblock_pool : Tblock_pool := Yblock_pool Xabbr_Pool
def Jblock_pool (X : Tblock_pool) : Inst := mkI 59 pL19 .nil pL13 pH14 X
def Iblock_pool : Inst := Jblock_pool Xblock_pool
theorem Eblock_pool (xabbr_Pool : Tabbr_Pool) : EqF Tryz.prog 26 gives Tryz.f59 [Jabbr_Pool xabbr_Pool] [Lblock_pool_0p] (Jblock_pool (Yblock_pool xabbr_Pool)) := fun x y K => by kernel_rfl
theorem Iblock_pool_ok : InstOk Tryz.prog G.1 Iblock_pool := iok (gives := gives) [Lblock_pool_0p] (okCons Iabbr_Pool_ok okNil) 26 follows Tryz.func59 (by kernel_rfl) (fun x => by kernel_rfl) (Eblock_pool Xabbr_Pool)
abbrev Thead_within : Type := Int → Int → Int → (Bool → Prop) → Prop
def Yhead_within (a0 : Int) (a1 : Int) (a2 : Int) (K : Bool → Prop) : Prop :=
 (if decide (a0 ≥ a1) then
 K (decide (a0 ≤ a2))
 else
 K false)
def Xhead_within : Thead_within := Yhead_within
def Jhead_within (X : Thead_within) : Inst := mkI 125 pL20 .nil pL1 .nil X
def Ihead_within : Inst := Jhead_within Xhead_within
theorem Ehead_within : EqF Tryz.prog 15 gives Tryz.f125 [] [] (Jhead_within (Yhead_within)) := fun x y K => by kernel_rfl
theorem Ihead_within_ok : InstOk Tryz.prog G.1 Ihead_within := iok (gives := gives) [] okNil 15 follows Tryz.func125 (by kernel_rfl) (fun x => by kernel_rfl) (Ehead_within)
abbrev Thead_Right : Type := Q21 → (Bool → Prop) → Prop
def Yhead_Right (xhead_within : Thead_within) (a0 : Q21) (K : Bool → Prop) : Prop :=
 xhead_within a0.2.2.2.1 0 201 (fun r1 =>
 (if r1 then
 xhead_within a0.2.2.2.2.1 0 2000 (fun r2 =>
 (if r2 then
 xhead_within a0.2.2.2.2.2.1 1 64 (fun r3 =>
 (if r3 then
 xhead_within a0.2.2.2.2.2.2.1 1 256 (fun r4 =>
 (if (a0.2.1 == 0) then
 (if (a0.2.2.1 == 0) then
 (if r4 then
 xhead_within a0.1 1 4 (fun r5 =>
 K r5)
 else
 K false)
 else
 (if r4 then
 (if (a0.2.2.1 == a0.2.2.2.2.2.1) then
 xhead_within a0.1 1 4 (fun r6 =>
 K r6)
 else
 K false)
 else
 K false))
 else
 (if (a0.2.1 == a0.2.2.2.2.2.1) then
 (if (a0.2.2.1 == 0) then
 (if r4 then
 xhead_within a0.1 1 4 (fun r7 =>
 K r7)
 else
 K false)
 else
 (if r4 then
 (if (a0.2.2.1 == a0.2.2.2.2.2.1) then
 xhead_within a0.1 1 4 (fun r8 =>
 K r8)
 else
 K false)
 else
 K false))
 else
 (if r4 then
 K false
 else
 K false))))
 else
 (if (a0.2.1 == 0) then
 (if (a0.2.2.1 == 0) then
 K false
 else
 K false)
 else
 (if (a0.2.1 == a0.2.2.2.2.2.1) then
 (if (a0.2.2.1 == 0) then
 K false
 else
 K false)
 else
 K false))))
 else
 (if (a0.2.1 == 0) then
 (if (a0.2.2.1 == 0) then
 K false
 else
 K false)
 else
 (if (a0.2.1 == a0.2.2.2.2.2.1) then
 (if (a0.2.2.1 == 0) then
 K false
 else
 K false)
 else
 K false))))
 else
 (if (a0.2.1 == 0) then
 (if (a0.2.2.1 == 0) then
 K false
 else
 K false)
 else
 (if (a0.2.1 == a0.2.2.2.2.2.1) then
 (if (a0.2.2.1 == 0) then
 K false
 else
 K false)
 else
 K false))))
def Xhead_Right : Thead_Right := Yhead_Right Xhead_within
def Jhead_Right (X : Thead_Right) : Inst := mkI 62 pL22 .nil pL1 .nil X
def Ihead_Right : Inst := Jhead_Right Xhead_Right
theorem Ehead_Right (xhead_within : Thead_within) : EqF Tryz.prog 54 gives Tryz.f62 [Jhead_within xhead_within] [] (Jhead_Right (Yhead_Right xhead_within)) := fun x y K => by kernel_rfl
theorem Ihead_Right_ok : InstOk Tryz.prog G.1 Ihead_Right := iok (gives := gives) [] (okCons Ihead_within_ok okNil) 54 follows Tryz.func62 (by kernel_rfl) (fun x => by kernel_rfl) (Ehead_Right Xhead_within)
abbrev Tblock_Count : Type := Q15 → (Q21 → Bool → Prop) → Prop
def Yblock_Count (xblock_pool : Tblock_pool) (xhead_Right : Thead_Right) (a0 : Q15) (K : Q21 → Bool → Prop) : Prop :=
 xblock_pool a0 (fun r1 r2 r3 r4 r5 =>
 (if (!r2) then
 K (0, 0, 0, 0, 0, 0, 0, ()) false
 else
 xhead_Right (a0.2.2.2.2.1, 0, 0, (↑(List.length a0.2.2.1) : Int), (↑(List.length a0.2.1) : Int), (↑(List.length a0.1) : Int), (↑(ByteArray.size r1) : Int), ()) (fun r6 =>
 (if (!r6) then
 K (0, 0, 0, 0, 0, 0, 0, ()) false
 else
 K (a0.2.2.2.2.1, 0, 0, (↑(List.length a0.2.2.1) : Int), (↑(List.length a0.2.1) : Int), (↑(List.length a0.1) : Int), (↑(ByteArray.size r1) : Int), ()) true))))
def Xblock_Count : Tblock_Count := Yblock_Count Xblock_pool Xhead_Right
def Jblock_Count (X : Tblock_Count) : Inst := mkI 21 pL19 .nil pL23 .nil X
def Iblock_Count : Inst := Jblock_Count Xblock_Count
theorem Eblock_Count (xblock_pool : Tblock_pool) (xhead_Right : Thead_Right) : EqF Tryz.prog 37 gives Tryz.f21 [Jblock_pool xblock_pool, Jhead_Right xhead_Right] [] (Jblock_Count (Yblock_Count xblock_pool xhead_Right)) := fun x y K => by kernel_rfl
theorem Iblock_Count_ok : InstOk Tryz.prog G.1 Iblock_Count := iok (gives := gives) [] (okCons Iblock_pool_ok (okCons Ihead_Right_ok okNil)) 37 follows Tryz.func21 (by kernel_rfl) (fun x => by kernel_rfl) (Eblock_Count Xblock_pool Xhead_Right)
abbrev Tnum_Sub : Type := Int → Int → (Int → Bool → Prop) → Prop
def Ynum_Sub (a0 : Int) (a1 : Int) (K : Int → Bool → Prop) : Prop :=
 (lt (!decide (w64 (a0 - a1) < a0) == decide (a1 > 0)) fun v2 =>
 (if v2 then
 (if (a1 != 0) then
 K 0 false
 else
 K (w64 (a0 - a1)) true)
 else
 K (w64 (a0 - a1)) true))
def Xnum_Sub : Tnum_Sub := Ynum_Sub
def Jnum_Sub (X : Tnum_Sub) : Inst := mkI 132 pL24 .nil pL25 .nil X
def Inum_Sub : Inst := Jnum_Sub Xnum_Sub
theorem Enum_Sub : EqF Tryz.prog 21 gives Tryz.f132 [] [] (Jnum_Sub (Ynum_Sub)) := fun x y K => by kernel_rfl
theorem Inum_Sub_ok : InstOk Tryz.prog G.1 Inum_Sub := iok (gives := gives) [] okNil 21 follows Tryz.func132 (by kernel_rfl) (fun x => by kernel_rfl) (Enum_Sub)
abbrev Trecord_Check : Type := (List Eng.V) → (Int → Int → Prop) → Prop
def Lrecord_Check_0 (xnum_Sub : Tnum_Sub) (K : Int → Int → Prop) : (Q26 → Prop) → Q26 → Prop := fun k1 x2 =>
 (if decide (x2.1.2.2.2.2.2.2.1 < x2.1.2.2.2.2.2.1) then
 (if 0 ≤ x2.1.2.2.2.2.2.2.1 ∧ x2.1.2.2.2.2.2.2.1 < (↑(List.length x2.1.2.2.2.2.1) : Int) then
 (Eng.asInt IntKind.i64 (Eng.getC x2.1.2.2.2.2.1 (Int.toNat x2.1.2.2.2.2.2.2.1) (0 : Nat)) False fun n3 =>
 (Eng.asInt IntKind.i64 (Eng.getC x2.1.2.2.2.2.1 (Int.toNat x2.1.2.2.2.2.2.2.1) (1 : Nat)) False fun n4 =>
 xnum_Sub n4 x2.2.1.2.1 (fun r5 r6 =>
 (if r6 then
 (if (r5 == 0) then
 (if (x2.1.2.2.2.2.2.2.1 == w64 ((↑(List.length x2.1.1) : Int) - 1)) then
 (if decide (x2.1.2.2.2.2.2.2.1 > 200) then
 K x2.1.2.2.2.2.2.2.1 8
 else
 (if decide (n3 < 0) then
 K x2.1.2.2.2.2.2.2.1 9
 else
 (if (!x2.1.2.2.2.2.2.2.1 == w64 ((↑(List.length x2.1.1) : Int) - 1)) then
 (if (!r6) then
 K x2.1.2.2.2.2.2.2.1 6
 else
 (if (r5 != 1) then
 (if (r5 != (-1)) then
 K x2.1.2.2.2.2.2.2.1 6
 else
 (if decide (x2.1.2.2.2.2.2.2.1 > 0) then
 (if decide (w64 (n3 - x2.2.1.1) < 0) then
 K x2.1.2.2.2.2.2.2.1 7
 else
 k1 ((x2.1.1, x2.1.2.1, x2.1.2.2.1, (), x2.1.2.2.2.2.1, x2.1.2.2.2.2.2.1, w64 (x2.1.2.2.2.2.2.2.1 + 1), ()), (n3, n4, ()), ()))
 else
 k1 ((x2.1.1, x2.1.2.1, x2.1.2.2.1, (), x2.1.2.2.2.2.1, x2.1.2.2.2.2.2.1, w64 (x2.1.2.2.2.2.2.2.1 + 1), ()), (n3, n4, ()), ())))
 else
 (if decide (x2.1.2.2.2.2.2.2.1 > 0) then
 (if decide (w64 (n3 - x2.2.1.1) < 0) then
 K x2.1.2.2.2.2.2.2.1 7
 else
 k1 ((x2.1.1, x2.1.2.1, x2.1.2.2.1, (), x2.1.2.2.2.2.1, x2.1.2.2.2.2.2.1, w64 (x2.1.2.2.2.2.2.2.1 + 1), ()), (n3, n4, ()), ()))
 else
 k1 ((x2.1.1, x2.1.2.1, x2.1.2.2.1, (), x2.1.2.2.2.2.1, x2.1.2.2.2.2.2.1, w64 (x2.1.2.2.2.2.2.2.1 + 1), ()), (n3, n4, ()), ()))))
 else
 (if decide (x2.1.2.2.2.2.2.2.1 > 0) then
 (if decide (w64 (n3 - x2.2.1.1) < 0) then
 K x2.1.2.2.2.2.2.2.1 7
 else
 k1 ((x2.1.1, x2.1.2.1, x2.1.2.2.1, (), x2.1.2.2.2.2.1, x2.1.2.2.2.2.2.1, w64 (x2.1.2.2.2.2.2.2.1 + 1), ()), (n3, n4, ()), ()))
 else
 k1 ((x2.1.1, x2.1.2.1, x2.1.2.2.1, (), x2.1.2.2.2.2.1, x2.1.2.2.2.2.2.1, w64 (x2.1.2.2.2.2.2.2.1 + 1), ()), (n3, n4, ()), ())))))
 else
 (if decide (x2.1.2.2.2.2.2.2.1 > 200) then
 K x2.1.2.2.2.2.2.2.1 8
 else
 (if decide (n3 < 0) then
 K x2.1.2.2.2.2.2.2.1 9
 else
 (if (!x2.1.2.2.2.2.2.2.1 == w64 ((↑(List.length x2.1.1) : Int) - 1)) then
 (if (!r6) then
 K x2.1.2.2.2.2.2.2.1 6
 else
 (if (r5 != 1) then
 (if (r5 != (-1)) then
 K x2.1.2.2.2.2.2.2.1 6
 else
 (if decide (x2.1.2.2.2.2.2.2.1 > 0) then
 (if decide (w64 (n3 - x2.2.1.1) < 2419199) then
 K x2.1.2.2.2.2.2.2.1 7
 else
 k1 ((x2.1.1, x2.1.2.1, x2.1.2.2.1, (), x2.1.2.2.2.2.1, x2.1.2.2.2.2.2.1, w64 (x2.1.2.2.2.2.2.2.1 + 1), ()), (n3, n4, ()), ()))
 else
 k1 ((x2.1.1, x2.1.2.1, x2.1.2.2.1, (), x2.1.2.2.2.2.1, x2.1.2.2.2.2.2.1, w64 (x2.1.2.2.2.2.2.2.1 + 1), ()), (n3, n4, ()), ())))
 else
 (if decide (x2.1.2.2.2.2.2.2.1 > 0) then
 (if decide (w64 (n3 - x2.2.1.1) < 2419199) then
 K x2.1.2.2.2.2.2.2.1 7
 else
 k1 ((x2.1.1, x2.1.2.1, x2.1.2.2.1, (), x2.1.2.2.2.2.1, x2.1.2.2.2.2.2.1, w64 (x2.1.2.2.2.2.2.2.1 + 1), ()), (n3, n4, ()), ()))
 else
 k1 ((x2.1.1, x2.1.2.1, x2.1.2.2.1, (), x2.1.2.2.2.2.1, x2.1.2.2.2.2.2.1, w64 (x2.1.2.2.2.2.2.2.1 + 1), ()), (n3, n4, ()), ()))))
 else
 (if decide (x2.1.2.2.2.2.2.2.1 > 0) then
 (if decide (w64 (n3 - x2.2.1.1) < 2419199) then
 K x2.1.2.2.2.2.2.2.1 7
 else
 k1 ((x2.1.1, x2.1.2.1, x2.1.2.2.1, (), x2.1.2.2.2.2.1, x2.1.2.2.2.2.2.1, w64 (x2.1.2.2.2.2.2.2.1 + 1), ()), (n3, n4, ()), ()))
 else
 k1 ((x2.1.1, x2.1.2.1, x2.1.2.2.1, (), x2.1.2.2.2.2.1, x2.1.2.2.2.2.2.1, w64 (x2.1.2.2.2.2.2.2.1 + 1), ()), (n3, n4, ()), ()))))))
 else
 (if decide (x2.1.2.2.2.2.2.2.1 > 200) then
 K x2.1.2.2.2.2.2.2.1 8
 else
 (if decide (n3 < 0) then
 K x2.1.2.2.2.2.2.2.1 9
 else
 (if (!r6) then
 K x2.1.2.2.2.2.2.2.1 6
 else
 (if (r5 != 1) then
 (if (r5 != (-1)) then
 K x2.1.2.2.2.2.2.2.1 6
 else
 (if decide (x2.1.2.2.2.2.2.2.1 > 0) then
 (if decide (w64 (n3 - x2.2.1.1) < 2419199) then
 K x2.1.2.2.2.2.2.2.1 7
 else
 k1 ((x2.1.1, x2.1.2.1, x2.1.2.2.1, (), x2.1.2.2.2.2.1, x2.1.2.2.2.2.2.1, w64 (x2.1.2.2.2.2.2.2.1 + 1), ()), (n3, n4, ()), ()))
 else
 k1 ((x2.1.1, x2.1.2.1, x2.1.2.2.1, (), x2.1.2.2.2.2.1, x2.1.2.2.2.2.2.1, w64 (x2.1.2.2.2.2.2.2.1 + 1), ()), (n3, n4, ()), ())))
 else
 (if decide (x2.1.2.2.2.2.2.2.1 > 0) then
 (if decide (w64 (n3 - x2.2.1.1) < 2419199) then
 K x2.1.2.2.2.2.2.2.1 7
 else
 k1 ((x2.1.1, x2.1.2.1, x2.1.2.2.1, (), x2.1.2.2.2.2.1, x2.1.2.2.2.2.2.1, w64 (x2.1.2.2.2.2.2.2.1 + 1), ()), (n3, n4, ()), ()))
 else
 k1 ((x2.1.1, x2.1.2.1, x2.1.2.2.1, (), x2.1.2.2.2.2.1, x2.1.2.2.2.2.2.1, w64 (x2.1.2.2.2.2.2.2.1 + 1), ()), (n3, n4, ()), ())))))))
 else
 (if decide (x2.1.2.2.2.2.2.2.1 > 200) then
 K x2.1.2.2.2.2.2.2.1 8
 else
 (if decide (n3 < 0) then
 K x2.1.2.2.2.2.2.2.1 9
 else
 (if (!r6) then
 K x2.1.2.2.2.2.2.2.1 6
 else
 (if (r5 != 1) then
 (if (r5 != (-1)) then
 K x2.1.2.2.2.2.2.2.1 6
 else
 (if decide (x2.1.2.2.2.2.2.2.1 > 0) then
 (if decide (w64 (n3 - x2.2.1.1) < 2419199) then
 K x2.1.2.2.2.2.2.2.1 7
 else
 k1 ((x2.1.1, x2.1.2.1, x2.1.2.2.1, (), x2.1.2.2.2.2.1, x2.1.2.2.2.2.2.1, w64 (x2.1.2.2.2.2.2.2.1 + 1), ()), (n3, n4, ()), ()))
 else
 k1 ((x2.1.1, x2.1.2.1, x2.1.2.2.1, (), x2.1.2.2.2.2.1, x2.1.2.2.2.2.2.1, w64 (x2.1.2.2.2.2.2.2.1 + 1), ()), (n3, n4, ()), ())))
 else
 (if decide (x2.1.2.2.2.2.2.2.1 > 0) then
 (if decide (w64 (n3 - x2.2.1.1) < 2419199) then
 K x2.1.2.2.2.2.2.2.1 7
 else
 k1 ((x2.1.1, x2.1.2.1, x2.1.2.2.1, (), x2.1.2.2.2.2.1, x2.1.2.2.2.2.2.1, w64 (x2.1.2.2.2.2.2.2.1 + 1), ()), (n3, n4, ()), ()))
 else
 k1 ((x2.1.1, x2.1.2.1, x2.1.2.2.1, (), x2.1.2.2.2.2.1, x2.1.2.2.2.2.2.1, w64 (x2.1.2.2.2.2.2.2.1 + 1), ()), (n3, n4, ()), ()))))))))))
 else
 False)
 else
 K (↑(List.length x2.1.1) : Int) 0)
def Lrecord_Check_0p : Lp := ⟨28701, [.trim 28701], pT27, pH28, 0⟩
def Yrecord_Check (xnum_Sub : Tnum_Sub) (a0 : (List Eng.V)) (K : Int → Int → Prop) : Prop :=
 lp (Lrecord_Check_0 xnum_Sub K) ((a0, 0, 0, (), a0, (↑(List.length a0) : Int), 0, ()), ((-2419199), 0, ()), ())
def Xrecord_Check : Trecord_Check := Yrecord_Check Xnum_Sub
def Jrecord_Check (X : Trecord_Check) : Inst := mkI 121 pL29 .nil pL24 .nil X
def Irecord_Check : Inst := Jrecord_Check Xrecord_Check
theorem Erecord_Check (xnum_Sub : Tnum_Sub) : EqF Tryz.prog 82 gives Tryz.f121 [Jnum_Sub xnum_Sub] [Lrecord_Check_0p] (Jrecord_Check (Yrecord_Check xnum_Sub)) := fun x y K => by kernel_rfl
theorem Irecord_Check_ok : InstOk Tryz.prog G.1 Irecord_Check := iok (gives := gives) [Lrecord_Check_0p] (okCons Inum_Sub_ok okNil) 82 follows Tryz.func121 (by kernel_rfl) (fun x => by kernel_rfl) (Erecord_Check Xnum_Sub)
abbrev Trecord_Right : Type := (List Eng.V) → (Bool → Prop) → Prop
def Yrecord_Right (xrecord_Check : Trecord_Check) (a0 : (List Eng.V)) (K : Bool → Prop) : Prop :=
 xrecord_Check a0 (fun r1 r2 =>
 K (r2 == 0))
def Xrecord_Right : Trecord_Right := Yrecord_Right Xrecord_Check
def Jrecord_Right (X : Trecord_Right) : Inst := mkI 52 pL29 .nil pL1 .nil X
def Irecord_Right : Inst := Jrecord_Right Xrecord_Right
theorem Erecord_Right (xrecord_Check : Trecord_Check) : EqF Tryz.prog 12 gives Tryz.f52 [Jrecord_Check xrecord_Check] [] (Jrecord_Right (Yrecord_Right xrecord_Check)) := fun x y K => by kernel_rfl
theorem Irecord_Right_ok : InstOk Tryz.prog G.1 Irecord_Right := iok (gives := gives) [] (okCons Irecord_Check_ok okNil) 12 follows Tryz.func52 (by kernel_rfl) (fun x => by kernel_rfl) (Erecord_Right Xrecord_Check)
abbrev Trecord_leaps : Type := (List Eng.V) → ((List Eng.V) → Bool → Bool → Prop) → Prop
def Yrecord_leaps (a0 : (List Eng.V)) (K : (List Eng.V) → Bool → Bool → Prop) : Prop :=
 (if (w64 ((↑(List.length a0) : Int) - 1) == 0) then
 (if (0 :Int) ≤ 0 ∧ 0 < (↑(List.length a0) : Int) then
 (Eng.asInt IntKind.i64 (Eng.getC a0 (0 : Nat) (1 : Nat)) False fun n1 =>
 (if (n1 == 0) then
 (if (n1 == 0) then
 (if 0 ≤ w64 ((↑(List.length a0) : Int) - 1) ∧ w64 ((↑(List.length a0) : Int) - 1) ≤ (↑(List.length a0) : Int) then
 (if (0 :Int) ≤ 0 ∧ 0 ≤ w64 ((↑(List.length a0) : Int) - 1) then
 K (Eng.cutL a0 (0 : Nat) (Int.toNat (w64 ((↑(List.length a0) : Int) - 1)) - (0 : Nat))) false true
 else
 False)
 else
 False)
 else
 K a0 false true)
 else
 (if decide (w64 ((↑(List.length a0) : Int) - 1) > 0) then
 (if 0 ≤ w64 ((↑(List.length a0) : Int) - 1) ∧ w64 ((↑(List.length a0) : Int) - 1) < (↑(List.length a0) : Int) then
 (Eng.asInt IntKind.i64 (Eng.getC a0 (Int.toNat (w64 ((↑(List.length a0) : Int) - 1))) (1 : Nat)) False fun n2 =>
 (lt (w64 (w64 ((↑(List.length a0) : Int) - 1) - 1)) fun v3 =>
 (if 0 ≤ v3 ∧ v3 < (↑(List.length a0) : Int) then
 (Eng.asInt IntKind.i64 (Eng.getC a0 (Int.toNat v3) (1 : Nat)) False fun n4 =>
 (if (n2 == n4) then
 (if 0 ≤ w64 ((↑(List.length a0) : Int) - 1) ∧ w64 ((↑(List.length a0) : Int) - 1) ≤ (↑(List.length a0) : Int) then
 (if (0 :Int) ≤ 0 ∧ 0 ≤ w64 ((↑(List.length a0) : Int) - 1) then
 K (Eng.cutL a0 (0 : Nat) (Int.toNat (w64 ((↑(List.length a0) : Int) - 1)) - (0 : Nat))) false true
 else
 False)
 else
 False)
 else
 K a0 false true))
 else
 False)))
 else
 False)
 else
 K a0 false true)))
 else
 False)
 else
 (if decide (w64 ((↑(List.length a0) : Int) - 1) > 0) then
 (if 0 ≤ w64 ((↑(List.length a0) : Int) - 1) ∧ w64 ((↑(List.length a0) : Int) - 1) < (↑(List.length a0) : Int) then
 (Eng.asInt IntKind.i64 (Eng.getC a0 (Int.toNat (w64 ((↑(List.length a0) : Int) - 1))) (1 : Nat)) False fun n5 =>
 (lt (w64 (w64 ((↑(List.length a0) : Int) - 1) - 1)) fun v6 =>
 (if 0 ≤ v6 ∧ v6 < (↑(List.length a0) : Int) then
 (Eng.asInt IntKind.i64 (Eng.getC a0 (Int.toNat v6) (1 : Nat)) False fun n7 =>
 (if (n5 == n7) then
 (if 0 ≤ w64 ((↑(List.length a0) : Int) - 1) ∧ w64 ((↑(List.length a0) : Int) - 1) ≤ (↑(List.length a0) : Int) then
 (if (0 :Int) ≤ 0 ∧ 0 ≤ w64 ((↑(List.length a0) : Int) - 1) then
 K (Eng.cutL a0 (0 : Nat) (Int.toNat (w64 ((↑(List.length a0) : Int) - 1)) - (0 : Nat))) false true
 else
 False)
 else
 False)
 else
 K a0 false true))
 else
 False)))
 else
 False)
 else
 K a0 false true))
def Xrecord_leaps : Trecord_leaps := Yrecord_leaps
def Jrecord_leaps (X : Trecord_leaps) : Inst := mkI 122 pL29 .nil pL30 pH31 X
def Irecord_leaps : Inst := Jrecord_leaps Xrecord_leaps
theorem Erecord_leaps : EqF Tryz.prog 37 gives Tryz.f122 [] [] (Jrecord_leaps (Yrecord_leaps)) := fun x y K => by kernel_rfl
theorem Irecord_leaps_ok : InstOk Tryz.prog G.1 Irecord_leaps := iok (gives := gives) [] okNil 37 follows Tryz.func122 (by kernel_rfl) (fun x => by kernel_rfl) (Erecord_leaps)
abbrev Trecord_Expiry : Type := (List Eng.V) → (Int → Bool → Prop) → Prop
def Yrecord_Expiry (xrecord_leaps : Trecord_leaps) (a0 : (List Eng.V)) (K : Int → Bool → Prop) : Prop :=
 xrecord_leaps a0 (fun r1 r2 r3 =>
 (if decide ((↑(List.length r1) : Int) < (↑(List.length a0) : Int)) then
 (if 0 ≤ (↑(List.length r1) : Int) ∧ (↑(List.length r1) : Int) < (↑(List.length a0) : Int) then
 (Eng.asInt IntKind.i64 (Eng.getC a0 (Int.toNat (↑(List.length r1) : Int)) (0 : Nat)) False fun n4 =>
 K n4 true)
 else
 False)
 else
 K 0 false))
def Xrecord_Expiry : Trecord_Expiry := Yrecord_Expiry Xrecord_leaps
def Jrecord_Expiry (X : Trecord_Expiry) : Inst := mkI 53 pL29 .nil pL25 .nil X
def Irecord_Expiry : Inst := Jrecord_Expiry Xrecord_Expiry
theorem Erecord_Expiry (xrecord_leaps : Trecord_leaps) : EqF Tryz.prog 17 gives Tryz.f53 [Jrecord_leaps xrecord_leaps] [] (Jrecord_Expiry (Yrecord_Expiry xrecord_leaps)) := fun x y K => by kernel_rfl
theorem Irecord_Expiry_ok : InstOk Tryz.prog G.1 Irecord_Expiry := iok (gives := gives) [] (okCons Irecord_leaps_ok okNil) 17 follows Tryz.func53 (by kernel_rfl) (fun x => by kernel_rfl) (Erecord_Expiry Xrecord_leaps)
abbrev Tzone_Right_1 : Type := Int → Q32 → (Bool → Prop) → Prop
def Yzone_Right_1 (a0 : Int) (a1 : Q32) (K : Bool → Prop) : Prop :=
 (if decide (a1.1 ≥ (-89999)) then
 K (decide (a1.1 ≤ 93599))
 else
 K false)
def Xzone_Right_1 : Tzone_Right_1 := Yzone_Right_1
def Jzone_Right_1 (X : Tzone_Right_1) : Inst := mkI 55 pL33 .nil pL1 .nil X
def Izone_Right_1 : Inst := Jzone_Right_1 Xzone_Right_1
theorem Ezone_Right_1 : EqF Tryz.prog 13 gives Tryz.f55 [] [] (Jzone_Right_1 (Yzone_Right_1)) := fun x y K => by kernel_rfl
theorem Izone_Right_1_ok : InstOk Tryz.prog G.1 Izone_Right_1 := iok (gives := gives) [] okNil 13 follows Tryz.func55 (by kernel_rfl) (fun x => by kernel_rfl) (Ezone_Right_1)
abbrev Tzone_all_api_Type_ : Type := (List Eng.V) → (Bool → Prop) → Prop
def Lzone_all_api_Type__0 (xzone_Right_1 : Tzone_Right_1) (K : Bool → Prop) : (Q34 → Prop) → Q34 → Prop := fun k1 x2 =>
 (if decide (x2.1.2.2.2.2.1 < x2.1.2.2.2.1) then
 (if 0 ≤ x2.1.2.2.2.2.1 ∧ x2.1.2.2.2.2.1 < (↑(List.length x2.1.2.2.1) : Int) then
 (Eng.asInt IntKind.i64 (Eng.getC x2.1.2.2.1 (Int.toNat x2.1.2.2.2.2.1) (0 : Nat)) False fun n3 =>
 (Eng.asBool (Eng.getC x2.1.2.2.1 (Int.toNat x2.1.2.2.2.2.1) (1 : Nat)) False fun b4 =>
 (Eng.asStr (Eng.getC x2.1.2.2.1 (Int.toNat x2.1.2.2.2.2.1) (2 : Nat)) False fun t5 =>
 xzone_Right_1 x2.1.2.2.2.2.1 (n3, b4, t5, ()) (fun r6 =>
 (if (!r6) then
 K false
 else
 k1 ((((), ()), x2.1.2.1, x2.1.2.2.1, x2.1.2.2.2.1, w64 (x2.1.2.2.2.2.1 + 1), ()), ()))))))
 else
 False)
 else
 K true)
def Lzone_all_api_Type__0p : Lp := ⟨914, [.trim 914], pT35, .nil, 0⟩
def Yzone_all_api_Type_ (xzone_Right_1 : Tzone_Right_1) (a0 : (List Eng.V)) (K : Bool → Prop) : Prop :=
 lp (Lzone_all_api_Type__0 xzone_Right_1 K) ((((), ()), false, a0, (↑(List.length a0) : Int), 0, ()), ())
def Xzone_all_api_Type_ : Tzone_all_api_Type_ := Yzone_all_api_Type_ Xzone_Right_1
def Jzone_all_api_Type_ (X : Tzone_all_api_Type_) : Inst := mkI 54 pL36 .nil pL1 .nil X
def Izone_all_api_Type_ : Inst := Jzone_all_api_Type_ Xzone_all_api_Type_
theorem Ezone_all_api_Type_ (xzone_Right_1 : Tzone_Right_1) : EqF Tryz.prog 20 gives Tryz.f54 [Jzone_Right_1 xzone_Right_1] [Lzone_all_api_Type__0p] (Jzone_all_api_Type_ (Yzone_all_api_Type_ xzone_Right_1)) := fun x y K => by kernel_rfl
theorem Izone_all_api_Type__ok : InstOk Tryz.prog G.1 Izone_all_api_Type_ := iok (gives := gives) [Lzone_all_api_Type__0p] (okCons Izone_Right_1_ok okNil) 20 follows Tryz.func54 (by kernel_rfl) (fun x => by kernel_rfl) (Ezone_all_api_Type_ Xzone_Right_1)
abbrev Tzone_Right_2 : Type := Int → Q37 → (List Eng.V) → (List Eng.V) → (List Eng.V) → ByteArray → Int → (Bool → ByteArray → Int → (List Eng.V) → Bool → Bool → (List Eng.V) → Bool → Bool → (List Eng.V) → Bool → Bool → Prop) → Prop
def Yzone_Right_2 (a0 : Int) (a1 : Q37) (a2 : (List Eng.V)) (a3 : (List Eng.V)) (a4 : (List Eng.V)) (a5 : ByteArray) (a6 : Int) (K : Bool → ByteArray → Int → (List Eng.V) → Bool → Bool → (List Eng.V) → Bool → Bool → (List Eng.V) → Bool → Bool → Prop) : Prop :=
 (if decide (a1.2.1 ≥ 0) then
 (if decide (a1.2.1 < (↑(List.length a2) : Int)) then
 (if (a0 == 0) then
 K true a5 a6 a2 false true a3 false true a4 false true
 else
 (if 0 ≤ w64 (a0 - 1) ∧ w64 (a0 - 1) < (↑(List.length a3) : Int) then
 (Eng.asInt IntKind.i64 (Eng.getC a3 (Int.toNat (w64 (a0 - 1))) (0 : Nat)) False fun n7 =>
 K (decide (a1.1 > n7)) a5 a6 a2 false true a3 false true a4 false true)
 else
 False))
 else
 K false a5 a6 a2 false true a3 false true a4 false true)
 else
 K false a5 a6 a2 false true a3 false true a4 false true)
def Xzone_Right_2 : Tzone_Right_2 := Yzone_Right_2
def Jzone_Right_2 (X : Tzone_Right_2) : Inst := mkI 57 pL38 pH39 pL1 pH40 X
def Izone_Right_2 : Inst := Jzone_Right_2 Xzone_Right_2
theorem Ezone_Right_2 : EqF Tryz.prog 33 gives Tryz.f57 [] [] (Jzone_Right_2 (Yzone_Right_2)) := fun x y K => by kernel_rfl
theorem Izone_Right_2_ok : InstOk Tryz.prog G.1 Izone_Right_2 := iok (gives := gives) [] okNil 33 follows Tryz.func57 (by kernel_rfl) (fun x => by kernel_rfl) (Ezone_Right_2)
abbrev Tzone_all_api_Trans_ : Type := (List Eng.V) → (List Eng.V) → (List Eng.V) → (List Eng.V) → ByteArray → Int → (Bool → ByteArray → Int → (List Eng.V) → Bool → Bool → (List Eng.V) → Bool → Bool → (List Eng.V) → Bool → Bool → Prop) → Prop
def Lzone_all_api_Trans__0 (xzone_Right_2 : Tzone_Right_2) (K : Bool → ByteArray → Int → (List Eng.V) → Bool → Bool → (List Eng.V) → Bool → Bool → (List Eng.V) → Bool → Bool → Prop) (a1 : (List Eng.V)) (a2 : (List Eng.V)) (a3 : (List Eng.V)) (a4 : ByteArray) (a5 : Int) : (Q41 → Prop) → Q41 → Prop := fun k6 x7 =>
 (if decide (x7.1.2.2.2.2.1 < x7.1.2.2.2.1) then
 (if 0 ≤ x7.1.2.2.2.2.1 ∧ x7.1.2.2.2.2.1 < (↑(List.length x7.1.2.2.1) : Int) then
 (Eng.asInt IntKind.i64 (Eng.getC x7.1.2.2.1 (Int.toNat x7.1.2.2.2.2.1) (0 : Nat)) False fun n8 =>
 (Eng.asInt IntKind.i64 (Eng.getC x7.1.2.2.1 (Int.toNat x7.1.2.2.2.2.1) (1 : Nat)) False fun n9 =>
 xzone_Right_2 x7.1.2.2.2.2.1 (n8, n9, ()) x7.2.1.1 x7.2.1.2.1 x7.2.1.2.2.1 x7.2.1.2.2.2.1 x7.2.1.2.2.2.2.1 (fun r10 r11 r12 r13 r14 r15 r16 r17 r18 r19 r20 r21 =>
 (if (!r10) then
 K false r11 r12 r13 r14 r15 r16 r17 r18 r19 r20 r21
 else
 k6 ((((), (), ()), x7.1.2.1, x7.1.2.2.1, x7.1.2.2.2.1, w64 (x7.1.2.2.2.2.1 + 1), ()), (r13, r16, r19, r11, r12, ()), ())))))
 else
 False)
 else
 K true x7.2.1.2.2.2.1 x7.2.1.2.2.2.2.1 x7.2.1.1 false true x7.2.1.2.1 false true x7.2.1.2.2.1 false true)
def Lzone_all_api_Trans__0p : Lp := ⟨914, [.trim 914, .thin 336, .trim 914, .thin 337, .trim 914, .thin 338, .trim 914], pT42, pH39, 0⟩
def Yzone_all_api_Trans_ (xzone_Right_2 : Tzone_Right_2) (a0 : (List Eng.V)) (a1 : (List Eng.V)) (a2 : (List Eng.V)) (a3 : (List Eng.V)) (a4 : ByteArray) (a5 : Int) (K : Bool → ByteArray → Int → (List Eng.V) → Bool → Bool → (List Eng.V) → Bool → Bool → (List Eng.V) → Bool → Bool → Prop) : Prop :=
 lp (Lzone_all_api_Trans__0 xzone_Right_2 K a1 a2 a3 a4 a5) ((((), (), ()), false, a0, (↑(List.length a0) : Int), 0, ()), (a1, a2, a3, a4, a5, ()), ())
def Xzone_all_api_Trans_ : Tzone_all_api_Trans_ := Yzone_all_api_Trans_ Xzone_Right_2
def Jzone_all_api_Trans_ (X : Tzone_all_api_Trans_) : Inst := mkI 56 pL43 pH39 pL1 pH40 X
def Izone_all_api_Trans_ : Inst := Jzone_all_api_Trans_ Xzone_all_api_Trans_
theorem Ezone_all_api_Trans_ (xzone_Right_2 : Tzone_Right_2) : EqF Tryz.prog 20 gives Tryz.f56 [Jzone_Right_2 xzone_Right_2] [Lzone_all_api_Trans__0p] (Jzone_all_api_Trans_ (Yzone_all_api_Trans_ xzone_Right_2)) := fun x y K => by kernel_rfl
theorem Izone_all_api_Trans__ok : InstOk Tryz.prog G.1 Izone_all_api_Trans_ := iok (gives := gives) [Lzone_all_api_Trans__0p] (okCons Izone_Right_2_ok okNil) 20 follows Tryz.func56 (by kernel_rfl) (fun x => by kernel_rfl) (Ezone_all_api_Trans_ Xzone_Right_2)
abbrev Tfoot_kind : Type := Q32 → Bool → (Bool → Prop) → Prop
def Yfoot_kind (xabbr_Right : Tabbr_Right) (a0 : Q32) (a1 : Bool) (K : Bool → Prop) : Prop :=
 xabbr_Right a0.2.2.1 (fun r2 =>
 (if r2 then
 (if (a0.2.1 == a1) then
 (if decide (a0.1 ≥ (-89999)) then
 K (decide (a0.1 ≤ 89999))
 else
 K false)
 else
 K false)
 else
 K false))
def Xfoot_kind : Tfoot_kind := Yfoot_kind Xabbr_Right
def Jfoot_kind (X : Tfoot_kind) : Inst := mkI 212 pL44 .nil pL1 .nil X
def Ifoot_kind : Inst := Jfoot_kind Xfoot_kind
theorem Efoot_kind (xabbr_Right : Tabbr_Right) : EqF Tryz.prog 24 gives Tryz.f212 [Jabbr_Right xabbr_Right] [] (Jfoot_kind (Yfoot_kind xabbr_Right)) := fun x y K => by kernel_rfl
theorem Ifoot_kind_ok : InstOk Tryz.prog G.1 Ifoot_kind := iok (gives := gives) [] (okCons Iabbr_Right_ok okNil) 24 follows Tryz.func212 (by kernel_rfl) (fun x => by kernel_rfl) (Efoot_kind Xabbr_Right)
abbrev Trule_within : Type := Int → Int → Int → (Bool → Prop) → Prop
def Yrule_within (a0 : Int) (a1 : Int) (a2 : Int) (K : Bool → Prop) : Prop :=
 (if decide (a0 ≥ a1) then
 K (decide (a0 ≤ a2))
 else
 K false)
def Xrule_within : Trule_within := Yrule_within
def Jrule_within (X : Trule_within) : Inst := mkI 238 pL20 .nil pL1 .nil X
def Irule_within : Inst := Jrule_within Xrule_within
theorem Erule_within : EqF Tryz.prog 15 gives Tryz.f238 [] [] (Jrule_within (Yrule_within)) := fun x y K => by kernel_rfl
theorem Irule_within_ok : InstOk Tryz.prog G.1 Irule_within := iok (gives := gives) [] okNil 15 follows Tryz.func238 (by kernel_rfl) (fun x => by kernel_rfl) (Erule_within)
abbrev Trule_Right : Type := Q45 → (Bool → Prop) → Prop
def Yrule_Right (xrule_within : Trule_within) (a0 : Q45) (K : Bool → Prop) : Prop :=
 xrule_within a0.2.2.2.2.1 (-604799) 604799 (fun r1 =>
 (if (a0.1 == 0) then
 (if r1 then
 xrule_within a0.2.1 1 12 (fun r2 =>
 (if r2 then
 xrule_within a0.2.2.1 1 5 (fun r3 =>
 (if r3 then
 xrule_within a0.2.2.2.1 0 6 (fun r4 =>
 K r4)
 else
 K false))
 else
 K false))
 else
 K false)
 else
 (if (a0.1 == 1) then
 (if r1 then
 (if decide (a0.2.1 > 0) then
 xrule_within a0.2.1 0 365 (fun r5 =>
 (if r5 then
 (if (a0.2.2.1 == 0) then
 K (a0.2.2.2.1 == 0)
 else
 K false)
 else
 K false))
 else
 K false)
 else
 K false)
 else
 (if (a0.1 == 2) then
 (if r1 then
 xrule_within a0.2.1 0 365 (fun r6 =>
 (if r6 then
 (if (a0.2.2.1 == 0) then
 K (a0.2.2.2.1 == 0)
 else
 K false)
 else
 K false))
 else
 K false)
 else
 K false))))
def Xrule_Right : Trule_Right := Yrule_Right Xrule_within
def Jrule_Right (X : Trule_Right) : Inst := mkI 213 pL46 .nil pL1 .nil X
def Irule_Right : Inst := Jrule_Right Xrule_Right
theorem Erule_Right (xrule_within : Trule_within) : EqF Tryz.prog 53 gives Tryz.f213 [Jrule_within xrule_within] [] (Jrule_Right (Yrule_Right xrule_within)) := fun x y K => by kernel_rfl
theorem Irule_Right_ok : InstOk Tryz.prog G.1 Irule_Right := iok (gives := gives) [] (okCons Irule_within_ok okNil) 53 follows Tryz.func213 (by kernel_rfl) (fun x => by kernel_rfl) (Erule_Right Xrule_within)
abbrev Tfoot_Right : Type := Q47 → (Bool → Prop) → Prop
def Yfoot_Right (xfoot_kind : Tfoot_kind) (xrule_Right : Trule_Right) (a0 : Q47) (K : Bool → Prop) : Prop :=
 xfoot_kind (a0.1, a0.2.1, a0.2.2.1, ()) false (fun r1 =>
 (if (!r1) then
 K false
 else
 (if a0.2.2.2.2.2.2.1 then
 xfoot_kind (a0.2.2.2.1, a0.2.2.2.2.1, a0.2.2.2.2.2.1, ()) true (fun r2 =>
 (if r2 then
 xrule_Right (a0.2.2.2.2.2.2.2.1, a0.2.2.2.2.2.2.2.2.1, a0.2.2.2.2.2.2.2.2.2.1, a0.2.2.2.2.2.2.2.2.2.2.1, a0.2.2.2.2.2.2.2.2.2.2.2.1, ()) (fun r3 =>
 (if r3 then
 xrule_Right a0.2.2.2.2.2.2.2.2.2.2.2.2 (fun r4 =>
 K r4)
 else
 K false))
 else
 K false))
 else
 (lt (a0.1 == a0.1 && (a0.2.1 == a0.2.1 && (ByteArray.toList a0.2.2.1 == ByteArray.toList a0.2.2.1 && true)) && (a0.2.2.2.1 == 0 && (a0.2.2.2.2.1 == false && (ByteArray.toList a0.2.2.2.2.2.1 == ByteArray.toList (ByteArray.mk #[]) && true)) && (a0.2.2.2.2.2.2.1 == false && (a0.2.2.2.2.2.2.2.1 == 0 && (a0.2.2.2.2.2.2.2.2.1 == 0 && (a0.2.2.2.2.2.2.2.2.2.1 == 0 && (a0.2.2.2.2.2.2.2.2.2.2.1 == 0 && (a0.2.2.2.2.2.2.2.2.2.2.2.1 == 0 && true)))) && (a0.2.2.2.2.2.2.2.2.2.2.2.2.1 == 0 && (a0.2.2.2.2.2.2.2.2.2.2.2.2.2.1 == 0 && (a0.2.2.2.2.2.2.2.2.2.2.2.2.2.2.1 == 0 && (a0.2.2.2.2.2.2.2.2.2.2.2.2.2.2.2.1 == 0 && (a0.2.2.2.2.2.2.2.2.2.2.2.2.2.2.2.2.1 == 0 && true)))) && true))))) fun v5 =>
 K v5))))
def Xfoot_Right : Tfoot_Right := Yfoot_Right Xfoot_kind Xrule_Right
def Jfoot_Right (X : Tfoot_Right) : Inst := mkI 177 pL48 .nil pL1 .nil X
def Ifoot_Right : Inst := Jfoot_Right Xfoot_Right
theorem Efoot_Right (xfoot_kind : Tfoot_kind) (xrule_Right : Trule_Right) : EqF Tryz.prog 27 gives Tryz.f177 [Jfoot_kind xfoot_kind, Jrule_Right xrule_Right] [] (Jfoot_Right (Yfoot_Right xfoot_kind xrule_Right)) := fun x y K => by kernel_rfl
theorem Ifoot_Right_ok : InstOk Tryz.prog G.1 Ifoot_Right := iok (gives := gives) [] (okCons Ifoot_kind_ok (okCons Irule_Right_ok okNil)) 27 follows Tryz.func177 (by kernel_rfl) (fun x => by kernel_rfl) (Efoot_Right Xfoot_kind Xrule_Right)
abbrev Tinternal_stringslite_HasPrefix : Type := ByteArray → ByteArray → (Bool → Prop) → Prop
def Yinternal_stringslite_HasPrefix (a0 : ByteArray) (a1 : ByteArray) (K : Bool → Prop) : Prop :=
 (if decide ((↑(ByteArray.size a0) : Int) ≥ (↑(ByteArray.size a1) : Int)) then
 (if 0 ≤ (↑(ByteArray.size a1) : Int) ∧ (↑(ByteArray.size a1) : Int) ≤ (↑(ByteArray.size a0) : Int) then
 K (ByteArray.toList (ByteArray.extract a0 (0 : Nat) (Int.toNat (↑(ByteArray.size a1) : Int))) == ByteArray.toList a1)
 else
 False)
 else
 K false)
def Xinternal_stringslite_HasPrefix : Tinternal_stringslite_HasPrefix := Yinternal_stringslite_HasPrefix
def Jinternal_stringslite_HasPrefix (X : Tinternal_stringslite_HasPrefix) : Inst := mkI 228 pL49 .nil pL1 .nil X
def Iinternal_stringslite_HasPrefix : Inst := Jinternal_stringslite_HasPrefix Xinternal_stringslite_HasPrefix
theorem Einternal_stringslite_HasPrefix : EqF Tryz.prog 18 gives Tryz.f228 [] [] (Jinternal_stringslite_HasPrefix (Yinternal_stringslite_HasPrefix)) := fun x y K => by kernel_rfl
theorem Iinternal_stringslite_HasPrefix_ok : InstOk Tryz.prog G.1 Iinternal_stringslite_HasPrefix := iok (gives := gives) [] okNil 18 follows Tryz.func228 (by kernel_rfl) (fun x => by kernel_rfl) (Einternal_stringslite_HasPrefix)
abbrev Tinternal_stringslite_CutPrefix : Type := ByteArray → ByteArray → (ByteArray → Bool → Prop) → Prop
def Yinternal_stringslite_CutPrefix (xinternal_stringslite_HasPrefix : Tinternal_stringslite_HasPrefix) (a0 : ByteArray) (a1 : ByteArray) (K : ByteArray → Bool → Prop) : Prop :=
 xinternal_stringslite_HasPrefix a0 a1 (fun r2 =>
 (if (!r2) then
 K a0 false
 else
 (if 0 ≤ (↑(ByteArray.size a0) : Int) ∧ (↑(ByteArray.size a0) : Int) ≤ (↑(ByteArray.size a0) : Int) then
 (if 0 ≤ (↑(ByteArray.size a1) : Int) ∧ (↑(ByteArray.size a1) : Int) ≤ (↑(ByteArray.size a0) : Int) then
 K (ByteArray.extract a0 (Int.toNat (↑(ByteArray.size a1) : Int)) (Int.toNat (↑(ByteArray.size a0) : Int))) true
 else
 False)
 else
 False)))
def Xinternal_stringslite_CutPrefix : Tinternal_stringslite_CutPrefix := Yinternal_stringslite_CutPrefix Xinternal_stringslite_HasPrefix
def Jinternal_stringslite_CutPrefix (X : Tinternal_stringslite_CutPrefix) : Inst := mkI 206 pL49 .nil pL50 .nil X
def Iinternal_stringslite_CutPrefix : Inst := Jinternal_stringslite_CutPrefix Xinternal_stringslite_CutPrefix
theorem Einternal_stringslite_CutPrefix (xinternal_stringslite_HasPrefix : Tinternal_stringslite_HasPrefix) : EqF Tryz.prog 15 gives Tryz.f206 [Jinternal_stringslite_HasPrefix xinternal_stringslite_HasPrefix] [] (Jinternal_stringslite_CutPrefix (Yinternal_stringslite_CutPrefix xinternal_stringslite_HasPrefix)) := fun x y K => by kernel_rfl
theorem Iinternal_stringslite_CutPrefix_ok : InstOk Tryz.prog G.1 Iinternal_stringslite_CutPrefix := iok (gives := gives) [] (okCons Iinternal_stringslite_HasPrefix_ok okNil) 15 follows Tryz.func206 (by kernel_rfl) (fun x => by kernel_rfl) (Einternal_stringslite_CutPrefix Xinternal_stringslite_HasPrefix)
abbrev Tstrings_CutPrefix : Type := ByteArray → ByteArray → (ByteArray → Bool → Prop) → Prop
def Ystrings_CutPrefix (xinternal_stringslite_CutPrefix : Tinternal_stringslite_CutPrefix) (a0 : ByteArray) (a1 : ByteArray) (K : ByteArray → Bool → Prop) : Prop :=
 xinternal_stringslite_CutPrefix a0 a1 (fun r2 r3 =>
 K r2 r3)
def Xstrings_CutPrefix : Tstrings_CutPrefix := Ystrings_CutPrefix Xinternal_stringslite_CutPrefix
def Jstrings_CutPrefix (X : Tstrings_CutPrefix) : Inst := mkI 165 pL49 .nil pL50 .nil X
def Istrings_CutPrefix : Inst := Jstrings_CutPrefix Xstrings_CutPrefix
theorem Estrings_CutPrefix (xinternal_stringslite_CutPrefix : Tinternal_stringslite_CutPrefix) : EqF Tryz.prog 11 gives Tryz.f165 [Jinternal_stringslite_CutPrefix xinternal_stringslite_CutPrefix] [] (Jstrings_CutPrefix (Ystrings_CutPrefix xinternal_stringslite_CutPrefix)) := fun x y K => by kernel_rfl
theorem Istrings_CutPrefix_ok : InstOk Tryz.prog G.1 Istrings_CutPrefix := iok (gives := gives) [] (okCons Iinternal_stringslite_CutPrefix_ok okNil) 11 follows Tryz.func165 (by kernel_rfl) (fun x => by kernel_rfl) (Estrings_CutPrefix Xinternal_stringslite_CutPrefix)
abbrev Tinternal_stringslite_Index : Type := ByteArray → ByteArray → (Int → Prop) → Prop
def Yinternal_stringslite_Index (xindexByte : TindexByte) (a0 : ByteArray) (a1 : ByteArray) (K : Int → Prop) : Prop :=
 (if ((↑(ByteArray.size a1) : Int) == 0) then
 K 0
 else
 (if (ByteArray.toList a1 == ByteArray.toList a0) then
 K 0
 else
 (if ((↑(ByteArray.size a1) : Int) == 1) then
 (if (0 :Int) ≤ 0 ∧ 0 < (↑(ByteArray.size a1) : Int) then
 xindexByte a0 (Eng.bAt a1 (0 : Nat)) (fun r2 =>
 K r2)
 else
 False)
 else
 (if decide ((↑(ByteArray.size a1) : Int) ≥ (↑(ByteArray.size a0) : Int)) then
 K (-1)
 else
 False))))
def Xinternal_stringslite_Index : Tinternal_stringslite_Index := Yinternal_stringslite_Index XindexByte
def Jinternal_stringslite_Index (X : Tinternal_stringslite_Index) : Inst := mkI 189 pL49 .nil pL6 .nil X
def Iinternal_stringslite_Index : Inst := Jinternal_stringslite_Index Xinternal_stringslite_Index
theorem Einternal_stringslite_Index (xindexByte : TindexByte) : EqF Tryz.prog 143 gives Tryz.f189 [JindexByte xindexByte] [] (Jinternal_stringslite_Index (Yinternal_stringslite_Index xindexByte)) := fun x y K => by kernel_rfl
theorem Iinternal_stringslite_Index_ok : InstOk Tryz.prog G.1 Iinternal_stringslite_Index := iok (gives := gives) [] (okCons IindexByte_ok okNil) 143 follows Tryz.func189 (by kernel_rfl) (fun x => by kernel_rfl) (Einternal_stringslite_Index XindexByte)
abbrev Tinternal_stringslite_Cut : Type := ByteArray → ByteArray → (ByteArray → ByteArray → Bool → Prop) → Prop
def Yinternal_stringslite_Cut (xinternal_stringslite_Index : Tinternal_stringslite_Index) (a0 : ByteArray) (a1 : ByteArray) (K : ByteArray → ByteArray → Bool → Prop) : Prop :=
 xinternal_stringslite_Index a0 a1 (fun r2 =>
 (if decide (r2 ≥ 0) then
 (if 0 ≤ r2 ∧ r2 ≤ (↑(ByteArray.size a0) : Int) then
 (if (0 :Int) ≤ 0 ∧ 0 ≤ r2 then
 (if 0 ≤ (↑(ByteArray.size a0) : Int) ∧ (↑(ByteArray.size a0) : Int) ≤ (↑(ByteArray.size a0) : Int) then
 (if 0 ≤ w64 (r2 + (↑(ByteArray.size a1) : Int)) ∧ w64 (r2 + (↑(ByteArray.size a1) : Int)) ≤ (↑(ByteArray.size a0) : Int) then
 (lt (ByteArray.extract a0 (Int.toNat (w64 (r2 + (↑(ByteArray.size a1) : Int)))) (Int.toNat (↑(ByteArray.size a0) : Int))) fun v3 =>
 K (ByteArray.extract a0 (0 : Nat) (Int.toNat r2)) v3 true)
 else
 False)
 else
 False)
 else
 False)
 else
 False)
 else
 K a0 (ByteArray.mk #[]) false))
def Xinternal_stringslite_Cut : Tinternal_stringslite_Cut := Yinternal_stringslite_Cut Xinternal_stringslite_Index
def Jinternal_stringslite_Cut (X : Tinternal_stringslite_Cut) : Inst := mkI 150 pL49 .nil pL51 .nil X
def Iinternal_stringslite_Cut : Inst := Jinternal_stringslite_Cut Xinternal_stringslite_Cut
theorem Einternal_stringslite_Cut (xinternal_stringslite_Index : Tinternal_stringslite_Index) : EqF Tryz.prog 23 gives Tryz.f150 [Jinternal_stringslite_Index xinternal_stringslite_Index] [] (Jinternal_stringslite_Cut (Yinternal_stringslite_Cut xinternal_stringslite_Index)) := fun x y K => by kernel_rfl
theorem Iinternal_stringslite_Cut_ok : InstOk Tryz.prog G.1 Iinternal_stringslite_Cut := iok (gives := gives) [] (okCons Iinternal_stringslite_Index_ok okNil) 23 follows Tryz.func150 (by kernel_rfl) (fun x => by kernel_rfl) (Einternal_stringslite_Cut Xinternal_stringslite_Index)
abbrev Tstrings_Cut : Type := ByteArray → ByteArray → (ByteArray → ByteArray → Bool → Prop) → Prop
def Ystrings_Cut (xinternal_stringslite_Cut : Tinternal_stringslite_Cut) (a0 : ByteArray) (a1 : ByteArray) (K : ByteArray → ByteArray → Bool → Prop) : Prop :=
 xinternal_stringslite_Cut a0 a1 (fun r2 r3 r4 =>
 K r2 r3 r4)
def Xstrings_Cut : Tstrings_Cut := Ystrings_Cut Xinternal_stringslite_Cut
def Jstrings_Cut (X : Tstrings_Cut) : Inst := mkI 89 pL49 .nil pL51 .nil X
def Istrings_Cut : Inst := Jstrings_Cut Xstrings_Cut
theorem Estrings_Cut (xinternal_stringslite_Cut : Tinternal_stringslite_Cut) : EqF Tryz.prog 13 gives Tryz.f89 [Jinternal_stringslite_Cut xinternal_stringslite_Cut] [] (Jstrings_Cut (Ystrings_Cut xinternal_stringslite_Cut)) := fun x y K => by kernel_rfl
theorem Istrings_Cut_ok : InstOk Tryz.prog G.1 Istrings_Cut := iok (gives := gives) [] (okCons Iinternal_stringslite_Cut_ok okNil) 13 follows Tryz.func89 (by kernel_rfl) (fun x => by kernel_rfl) (Estrings_Cut Xinternal_stringslite_Cut)
abbrev Tfoot_plain : Type := Int → (Bool → Prop) → Prop
def Yfoot_plain (a0 : Int) (K : Bool → Prop) : Prop :=
 (if decide (a0 ≥ 97) then
 (if decide (a0 ≤ 122) then
 K true
 else
 (if decide (a0 ≥ 65) then
 K (decide (a0 ≤ 90))
 else
 K false))
 else
 (if decide (a0 ≥ 65) then
 K (decide (a0 ≤ 90))
 else
 K false))
def Xfoot_plain : Tfoot_plain := Yfoot_plain
def Jfoot_plain (X : Tfoot_plain) : Inst := mkI 231 pL0 .nil pL1 .nil X
def Ifoot_plain : Inst := Jfoot_plain Xfoot_plain
theorem Efoot_plain : EqF Tryz.prog 17 gives Tryz.f231 [] [] (Jfoot_plain (Yfoot_plain)) := fun x y K => by kernel_rfl
theorem Ifoot_plain_ok : InstOk Tryz.prog G.1 Ifoot_plain := iok (gives := gives) [] okNil 17 follows Tryz.func231 (by kernel_rfl) (fun x => by kernel_rfl) (Efoot_plain)
abbrev Tfoot_reader_name_1 : Type := Int → (Bool → Prop) → Prop
def Yfoot_reader_name_1 (xfoot_plain : Tfoot_plain) (a0 : Int) (K : Bool → Prop) : Prop :=
 xfoot_plain a0 (fun r1 =>
 K !r1)
def Xfoot_reader_name_1 : Tfoot_reader_name_1 := Yfoot_reader_name_1 Xfoot_plain
def Jfoot_reader_name_1 (X : Tfoot_reader_name_1) : Inst := mkI 230 pL0 .nil pL1 .nil X
def Ifoot_reader_name_1 : Inst := Jfoot_reader_name_1 Xfoot_reader_name_1
theorem Efoot_reader_name_1 (xfoot_plain : Tfoot_plain) : EqF Tryz.prog 6 gives Tryz.f230 [Jfoot_plain xfoot_plain] [] (Jfoot_reader_name_1 (Yfoot_reader_name_1 xfoot_plain)) := fun x y K => by kernel_rfl
theorem Ifoot_reader_name_1_ok : InstOk Tryz.prog G.1 Ifoot_reader_name_1 := iok (gives := gives) [] (okCons Ifoot_plain_ok okNil) 6 follows Tryz.func230 (by kernel_rfl) (fun x => by kernel_rfl) (Efoot_reader_name_1 Xfoot_plain)
abbrev Tstrings_indexFunc_1 : Type := ByteArray → Bool → (Int → Prop) → Prop
def Lstrings_indexFunc_1_0 (xfoot_reader_name_1 : Tfoot_reader_name_1) (K : Int → Prop) : (Q2 → Prop) → Q2 → Prop := fun k2 x3 =>
 (if x3.2.1.2 < ByteArray.size x3.2.1.1 then
 xfoot_reader_name_1 (↑(Prod.fst (Go.Utf8.decode x3.2.1.1 x3.2.1.2)) : Int) (fun r4 =>
 (if (r4 == x3.1.2.1) then
 K (↑(x3.2.1.2) : Int)
 else
 k2 ((((), ()), x3.1.2.1, x3.1.2.2.1, (), ()), (x3.2.1.1, x3.2.1.2 + Prod.snd (Go.Utf8.decode x3.2.1.1 x3.2.1.2)), ())))
 else
 K (-1))
def Lstrings_indexFunc_1_0p : Lp := ⟨1094, [.trim 1094], pT52, pH4, 0⟩
def Ystrings_indexFunc_1 (xfoot_reader_name_1 : Tfoot_reader_name_1) (a0 : ByteArray) (a1 : Bool) (K : Int → Prop) : Prop :=
 lp (Lstrings_indexFunc_1_0 xfoot_reader_name_1 K) ((((), ()), a1, 0, (), ()), (a0, (0 : Nat)), ())
def Xstrings_indexFunc_1 : Tstrings_indexFunc_1 := Ystrings_indexFunc_1 Xfoot_reader_name_1
def Jstrings_indexFunc_1 (X : Tstrings_indexFunc_1) : Inst := mkI 217 pL53 .nil pL6 .nil X
def Istrings_indexFunc_1 : Inst := Jstrings_indexFunc_1 Xstrings_indexFunc_1
theorem Estrings_indexFunc_1 (xfoot_reader_name_1 : Tfoot_reader_name_1) : EqF Tryz.prog 21 gives Tryz.f217 [Jfoot_reader_name_1 xfoot_reader_name_1] [Lstrings_indexFunc_1_0p] (Jstrings_indexFunc_1 (Ystrings_indexFunc_1 xfoot_reader_name_1)) := fun x y K => by kernel_rfl
theorem Istrings_indexFunc_1_ok : InstOk Tryz.prog G.1 Istrings_indexFunc_1 := iok (gives := gives) [Lstrings_indexFunc_1_0p] (okCons Ifoot_reader_name_1_ok okNil) 21 follows Tryz.func217 (by kernel_rfl) (fun x => by kernel_rfl) (Estrings_indexFunc_1 Xfoot_reader_name_1)
abbrev Tstrings_IndexFunc_1 : Type := ByteArray → (Int → Prop) → Prop
def Ystrings_IndexFunc_1 (xstrings_indexFunc_1 : Tstrings_indexFunc_1) (a0 : ByteArray) (K : Int → Prop) : Prop :=
 xstrings_indexFunc_1 a0 true (fun r1 =>
 K r1)
def Xstrings_IndexFunc_1 : Tstrings_IndexFunc_1 := Ystrings_IndexFunc_1 Xstrings_indexFunc_1
def Jstrings_IndexFunc_1 (X : Tstrings_IndexFunc_1) : Inst := mkI 187 pL54 .nil pL6 .nil X
def Istrings_IndexFunc_1 : Inst := Jstrings_IndexFunc_1 Xstrings_IndexFunc_1
theorem Estrings_IndexFunc_1 (xstrings_indexFunc_1 : Tstrings_indexFunc_1) : EqF Tryz.prog 8 gives Tryz.f187 [Jstrings_indexFunc_1 xstrings_indexFunc_1] [] (Jstrings_IndexFunc_1 (Ystrings_IndexFunc_1 xstrings_indexFunc_1)) := fun x y K => by kernel_rfl
theorem Istrings_IndexFunc_1_ok : InstOk Tryz.prog G.1 Istrings_IndexFunc_1 := iok (gives := gives) [] (okCons Istrings_indexFunc_1_ok okNil) 8 follows Tryz.func187 (by kernel_rfl) (fun x => by kernel_rfl) (Estrings_IndexFunc_1 Xstrings_indexFunc_1)
abbrev Tfoot_reader_name : Type := ByteArray → Int → Bool → ByteArray → Int → Bool → ByteArray → Bool → Int → Int → Int → Int → Int → Int → Int → Int → Int → Int → (ByteArray → Bool → ByteArray → Int → Bool → ByteArray → Int → Bool → ByteArray → Bool → Int → Int → Int → Int → Int → Int → Int → Int → Int → Int → Prop) → Prop
def Yfoot_reader_name (xstrings_CutPrefix : Tstrings_CutPrefix) (xstrings_Cut : Tstrings_Cut) (xabbr_Right : Tabbr_Right) (xstrings_IndexFunc_1 : Tstrings_IndexFunc_1) (a0 : ByteArray) (a1 : Int) (a2 : Bool) (a3 : ByteArray) (a4 : Int) (a5 : Bool) (a6 : ByteArray) (a7 : Bool) (a8 : Int) (a9 : Int) (a10 : Int) (a11 : Int) (a12 : Int) (a13 : Int) (a14 : Int) (a15 : Int) (a16 : Int) (a17 : Int) (K : ByteArray → Bool → ByteArray → Int → Bool → ByteArray → Int → Bool → ByteArray → Bool → Int → Int → Int → Int → Int → Int → Int → Int → Int → Int → Prop) : Prop :=
 xstrings_CutPrefix a0 (ByteArray.mk #[(60 : UInt8)]) (fun r18 r19 =>
 (if r19 then
 xstrings_Cut r18 (ByteArray.mk #[(62 : UInt8)]) (fun r20 r21 r22 =>
 (if r22 then
 xabbr_Right r20 (fun r23 =>
 K r20 r23 r21 a1 a2 a3 a4 a5 a6 a7 a8 a9 a10 a11 a12 a13 a14 a15 a16 a17)
 else
 K r20 false r21 a1 a2 a3 a4 a5 a6 a7 a8 a9 a10 a11 a12 a13 a14 a15 a16 a17))
 else
 xstrings_IndexFunc_1 a0 (fun r24 =>
 (if decide (r24 < 0) then
 (if 0 ≤ (↑(ByteArray.size a0) : Int) ∧ (↑(ByteArray.size a0) : Int) ≤ (↑(ByteArray.size a0) : Int) then
 (if 0 ≤ (↑(ByteArray.size a0) : Int) ∧ (↑(ByteArray.size a0) : Int) ≤ (↑(ByteArray.size a0) : Int) then
 (if 0 ≤ (↑(ByteArray.size a0) : Int) ∧ (↑(ByteArray.size a0) : Int) ≤ (↑(ByteArray.size a0) : Int) then
 xabbr_Right (ByteArray.extract a0 (0 : Nat) (Int.toNat (↑(ByteArray.size a0) : Int))) (fun r25 =>
 K (ByteArray.extract a0 (0 : Nat) (Int.toNat (↑(ByteArray.size a0) : Int))) r25 (ByteArray.extract a0 (Int.toNat (↑(ByteArray.size a0) : Int)) (Int.toNat (↑(ByteArray.size a0) : Int))) a1 a2 a3 a4 a5 a6 a7 a8 a9 a10 a11 a12 a13 a14 a15 a16 a17)
 else
 False)
 else
 False)
 else
 False)
 else
 (if 0 ≤ r24 ∧ r24 ≤ (↑(ByteArray.size a0) : Int) then
 (if (0 :Int) ≤ 0 ∧ 0 ≤ r24 then
 (if 0 ≤ (↑(ByteArray.size a0) : Int) ∧ (↑(ByteArray.size a0) : Int) ≤ (↑(ByteArray.size a0) : Int) then
 (if 0 ≤ r24 ∧ r24 ≤ (↑(ByteArray.size a0) : Int) then
 xabbr_Right (ByteArray.extract a0 (0 : Nat) (Int.toNat r24)) (fun r26 =>
 K (ByteArray.extract a0 (0 : Nat) (Int.toNat r24)) r26 (ByteArray.extract a0 (Int.toNat r24) (Int.toNat (↑(ByteArray.size a0) : Int))) a1 a2 a3 a4 a5 a6 a7 a8 a9 a10 a11 a12 a13 a14 a15 a16 a17)
 else
 False)
 else
 False)
 else
 False)
 else
 False)))))
def Xfoot_reader_name : Tfoot_reader_name := Yfoot_reader_name Xstrings_CutPrefix Xstrings_Cut Xabbr_Right Xstrings_IndexFunc_1
def Jfoot_reader_name (X : Tfoot_reader_name) : Inst := mkI 209 pL55 pH56 pL50 pH56 X
def Ifoot_reader_name : Inst := Jfoot_reader_name Xfoot_reader_name
theorem Efoot_reader_name (xstrings_CutPrefix : Tstrings_CutPrefix) (xstrings_Cut : Tstrings_Cut) (xabbr_Right : Tabbr_Right) (xstrings_IndexFunc_1 : Tstrings_IndexFunc_1) : EqF Tryz.prog 61 gives Tryz.f209 [Jstrings_CutPrefix xstrings_CutPrefix, Jstrings_Cut xstrings_Cut, Jabbr_Right xabbr_Right, Jstrings_IndexFunc_1 xstrings_IndexFunc_1] [] (Jfoot_reader_name (Yfoot_reader_name xstrings_CutPrefix xstrings_Cut xabbr_Right xstrings_IndexFunc_1)) := fun x y K => by kernel_rfl
theorem Ifoot_reader_name_ok : InstOk Tryz.prog G.1 Ifoot_reader_name := iok (gives := gives) [] (okCons Istrings_CutPrefix_ok (okCons Istrings_Cut_ok (okCons Iabbr_Right_ok (okCons Istrings_IndexFunc_1_ok okNil)))) 61 follows Tryz.func209 (by kernel_rfl) (fun x => by kernel_rfl) (Efoot_reader_name Xstrings_CutPrefix Xstrings_Cut Xabbr_Right Xstrings_IndexFunc_1)
abbrev Tinternal_stringslite_TrimPrefix : Type := ByteArray → ByteArray → (ByteArray → Prop) → Prop
def Yinternal_stringslite_TrimPrefix (xinternal_stringslite_HasPrefix : Tinternal_stringslite_HasPrefix) (a0 : ByteArray) (a1 : ByteArray) (K : ByteArray → Prop) : Prop :=
 xinternal_stringslite_HasPrefix a0 a1 (fun r2 =>
 (if r2 then
 (if 0 ≤ (↑(ByteArray.size a0) : Int) ∧ (↑(ByteArray.size a0) : Int) ≤ (↑(ByteArray.size a0) : Int) then
 (if 0 ≤ (↑(ByteArray.size a1) : Int) ∧ (↑(ByteArray.size a1) : Int) ≤ (↑(ByteArray.size a0) : Int) then
 K (ByteArray.extract a0 (Int.toNat (↑(ByteArray.size a1) : Int)) (Int.toNat (↑(ByteArray.size a0) : Int)))
 else
 False)
 else
 False)
 else
 K a0))
def Xinternal_stringslite_TrimPrefix : Tinternal_stringslite_TrimPrefix := Yinternal_stringslite_TrimPrefix Xinternal_stringslite_HasPrefix
def Jinternal_stringslite_TrimPrefix (X : Tinternal_stringslite_TrimPrefix) : Inst := mkI 251 pL49 .nil pL8 .nil X
def Iinternal_stringslite_TrimPrefix : Inst := Jinternal_stringslite_TrimPrefix Xinternal_stringslite_TrimPrefix
theorem Einternal_stringslite_TrimPrefix (xinternal_stringslite_HasPrefix : Tinternal_stringslite_HasPrefix) : EqF Tryz.prog 13 gives Tryz.f251 [Jinternal_stringslite_HasPrefix xinternal_stringslite_HasPrefix] [] (Jinternal_stringslite_TrimPrefix (Yinternal_stringslite_TrimPrefix xinternal_stringslite_HasPrefix)) := fun x y K => by kernel_rfl
theorem Iinternal_stringslite_TrimPrefix_ok : InstOk Tryz.prog G.1 Iinternal_stringslite_TrimPrefix := iok (gives := gives) [] (okCons Iinternal_stringslite_HasPrefix_ok okNil) 13 follows Tryz.func251 (by kernel_rfl) (fun x => by kernel_rfl) (Einternal_stringslite_TrimPrefix Xinternal_stringslite_HasPrefix)
abbrev Tstrings_TrimPrefix : Type := ByteArray → ByteArray → (ByteArray → Prop) → Prop
def Ystrings_TrimPrefix (xinternal_stringslite_TrimPrefix : Tinternal_stringslite_TrimPrefix) (a0 : ByteArray) (a1 : ByteArray) (K : ByteArray → Prop) : Prop :=
 xinternal_stringslite_TrimPrefix a0 a1 (fun r2 =>
 K r2)
def Xstrings_TrimPrefix : Tstrings_TrimPrefix := Ystrings_TrimPrefix Xinternal_stringslite_TrimPrefix
def Jstrings_TrimPrefix (X : Tstrings_TrimPrefix) : Inst := mkI 232 pL49 .nil pL8 .nil X
def Istrings_TrimPrefix : Inst := Jstrings_TrimPrefix Xstrings_TrimPrefix
theorem Estrings_TrimPrefix (xinternal_stringslite_TrimPrefix : Tinternal_stringslite_TrimPrefix) : EqF Tryz.prog 8 gives Tryz.f232 [Jinternal_stringslite_TrimPrefix xinternal_stringslite_TrimPrefix] [] (Jstrings_TrimPrefix (Ystrings_TrimPrefix xinternal_stringslite_TrimPrefix)) := fun x y K => by kernel_rfl
theorem Istrings_TrimPrefix_ok : InstOk Tryz.prog G.1 Istrings_TrimPrefix := iok (gives := gives) [] (okCons Iinternal_stringslite_TrimPrefix_ok okNil) 8 follows Tryz.func232 (by kernel_rfl) (fun x => by kernel_rfl) (Estrings_TrimPrefix Xinternal_stringslite_TrimPrefix)
abbrev Trule_digits : Type := ByteArray → (Int → Prop) → Prop
def Lrule_digits_0 (K : Int → Prop) : (Q57 → Prop) → Q57 → Prop := fun k1 x2 =>
 (if x2.2.1.2 < ByteArray.size x2.2.1.1 then
 (if decide ((↑(Prod.fst (Go.Utf8.decode x2.2.1.1 x2.2.1.2)) : Int) < 48) then
 K (↑(x2.2.1.2) : Int)
 else
 (if decide ((↑(Prod.fst (Go.Utf8.decode x2.2.1.1 x2.2.1.2)) : Int) > 57) then
 K (↑(x2.2.1.2) : Int)
 else
 k1 ((x2.1.1, x2.1.2.1, (), ()), (x2.2.1.1, x2.2.1.2 + Prod.snd (Go.Utf8.decode x2.2.1.1 x2.2.1.2)), ())))
 else
 K (↑(ByteArray.size x2.1.1) : Int))
def Lrule_digits_0p : Lp := ⟨69, [.trim 69], pT58, pH59, 0⟩
def Yrule_digits (a0 : ByteArray) (K : Int → Prop) : Prop :=
 lp (Lrule_digits_0 K) ((a0, 0, (), ()), (a0, (0 : Nat)), ())
def Xrule_digits : Trule_digits := Yrule_digits
def Jrule_digits (X : Trule_digits) : Inst := mkI 233 pL8 .nil pL6 .nil X
def Irule_digits : Inst := Jrule_digits Xrule_digits
theorem Erule_digits : EqF Tryz.prog 20 gives Tryz.f233 [] [Lrule_digits_0p] (Jrule_digits (Yrule_digits)) := fun x y K => by kernel_rfl
theorem Irule_digits_ok : InstOk Tryz.prog G.1 Irule_digits := iok (gives := gives) [Lrule_digits_0p] okNil 20 follows Tryz.func233 (by kernel_rfl) (fun x => by kernel_rfl) (Erule_digits)
abbrev Trule_sixty : Type := ByteArray → (Int → ByteArray → Bool → Prop) → Prop
def Yrule_sixty (xrule_digits : Trule_digits) (xatoi : Tatoi) (a0 : ByteArray) (K : Int → ByteArray → Bool → Prop) : Prop :=
 (if decide ((↑(ByteArray.size a0) : Int) < 3) then
 K 0 a0 false
 else
 (if (0 :Int) ≤ 0 ∧ 0 < (↑(ByteArray.size a0) : Int) then
 (if (Eng.bAt a0 (0 : Nat) != 58) then
 K 0 a0 false
 else
 (if 0 ≤ (↑(ByteArray.size a0) : Int) ∧ (↑(ByteArray.size a0) : Int) ≤ (↑(ByteArray.size a0) : Int) then
 (if (0 :Int) ≤ 1 ∧ 1 ≤ (↑(ByteArray.size a0) : Int) then
 xrule_digits (ByteArray.extract a0 (1 : Nat) (Int.toNat (↑(ByteArray.size a0) : Int))) (fun r1 =>
 (if decide (r1 < 2) then
 K 0 a0 false
 else
 (if (0 :Int) ≤ 1 ∧ 1 < (↑(ByteArray.size a0) : Int) then
 (if decide (Eng.bAt a0 (1 : Nat) > 53) then
 K 0 a0 false
 else
 (if (0 :Int) ≤ 3 ∧ 3 ≤ (↑(ByteArray.size a0) : Int) then
 xatoi (ByteArray.extract a0 (1 : Nat) (3 : Nat)) (fun r2 r3 =>
 (if 0 ≤ (↑(ByteArray.size a0) : Int) ∧ (↑(ByteArray.size a0) : Int) ≤ (↑(ByteArray.size a0) : Int) then
 (if (0 :Int) ≤ 3 ∧ 3 ≤ (↑(ByteArray.size a0) : Int) then
 K r2 (ByteArray.extract a0 (3 : Nat) (Int.toNat (↑(ByteArray.size a0) : Int))) true
 else
 False)
 else
 False))
 else
 False))
 else
 False)))
 else
 False)
 else
 False))
 else
 False))
def Xrule_sixty : Trule_sixty := Yrule_sixty Xrule_digits Xatoi
def Jrule_sixty (X : Trule_sixty) : Inst := mkI 235 pL8 .nil pL60 .nil X
def Irule_sixty : Inst := Jrule_sixty Xrule_sixty
theorem Erule_sixty (xrule_digits : Trule_digits) (xatoi : Tatoi) : EqF Tryz.prog 34 gives Tryz.f235 [Jrule_digits xrule_digits, Jatoi xatoi] [] (Jrule_sixty (Yrule_sixty xrule_digits xatoi)) := fun x y K => by kernel_rfl
theorem Irule_sixty_ok : InstOk Tryz.prog G.1 Irule_sixty := iok (gives := gives) [] (okCons Irule_digits_ok (okCons Iatoi_ok okNil)) 34 follows Tryz.func235 (by kernel_rfl) (fun x => by kernel_rfl) (Erule_sixty Xrule_digits Xatoi)
abbrev Trule_more : Type := ByteArray → Bool → (Int → ByteArray → Bool → Prop) → Prop
def Yrule_more (xrule_sixty : Trule_sixty) (a0 : ByteArray) (a1 : Bool) (K : Int → ByteArray → Bool → Prop) : Prop :=
 (if (!a1) then
 K 0 a0 false
 else
 xrule_sixty a0 (fun r2 r3 r4 =>
 K r2 r3 r4))
def Xrule_more : Trule_more := Yrule_more Xrule_sixty
def Jrule_more (X : Trule_more) : Inst := mkI 236 pL50 .nil pL60 .nil X
def Irule_more : Inst := Jrule_more Xrule_more
theorem Erule_more (xrule_sixty : Trule_sixty) : EqF Tryz.prog 15 gives Tryz.f236 [Jrule_sixty xrule_sixty] [] (Jrule_more (Yrule_more xrule_sixty)) := fun x y K => by kernel_rfl
theorem Irule_more_ok : InstOk Tryz.prog G.1 Irule_more := iok (gives := gives) [] (okCons Irule_sixty_ok okNil) 15 follows Tryz.func236 (by kernel_rfl) (fun x => by kernel_rfl) (Erule_more Xrule_sixty)
abbrev Trule_Time : Type := ByteArray → (Int → ByteArray → Bool → Prop) → Prop
def Yrule_Time (xstrings_TrimPrefix : Tstrings_TrimPrefix) (xrule_digits : Trule_digits) (xatoi : Tatoi) (xrule_sixty : Trule_sixty) (xrule_more : Trule_more) (a0 : ByteArray) (K : Int → ByteArray → Bool → Prop) : Prop :=
 xstrings_TrimPrefix a0 (ByteArray.mk #[(45 : UInt8)]) (fun r1 =>
 (if ((↑(ByteArray.size r1) : Int) == (↑(ByteArray.size a0) : Int)) then
 xstrings_TrimPrefix a0 (ByteArray.mk #[(43 : UInt8)]) (fun r2 =>
 xrule_digits r2 (fun r3 =>
 (if ((if 3 < r3 then 3 else r3) == 0) then
 K 0 a0 false
 else
 (if (0 ≤ if 3 < r3 then 3 else r3) ∧ (if 3 < r3 then 3 else r3) ≤ (↑(ByteArray.size r2) : Int) then
 (if (0 :Int) ≤ 0 ∧ 0 ≤ if 3 < r3 then 3 else r3 then
 xatoi (ByteArray.extract r2 (0 : Nat) (Int.toNat (if 3 < r3 then 3 else r3))) (fun r4 r5 =>
 (if decide (r4 > 167) then
 (if 0 ≤ (↑(ByteArray.size r2) : Int) ∧ (↑(ByteArray.size r2) : Int) ≤ (↑(ByteArray.size r2) : Int) then
 (if 0 ≤ w64 ((if 3 < r3 then 3 else r3) - 1) ∧ w64 ((if 3 < r3 then 3 else r3) - 1) ≤ (↑(ByteArray.size r2) : Int) then
 (lt (ByteArray.extract r2 (Int.toNat (w64 ((if 3 < r3 then 3 else r3) - 1))) (Int.toNat (↑(ByteArray.size r2) : Int))) fun v6 =>
 xrule_sixty v6 (fun r7 r8 r9 =>
 xrule_more r8 r9 (fun r10 r11 r12 =>
 (lt (w64 (w64 (Int.tdiv r4 10) * 3600)) fun v13 =>
 (lt (w64 (v13 + w64 (r7 * 60))) fun v14 =>
 (lt (w64 (1 * w64 (v14 + r10))) fun v15 =>
 K v15 r11 true))))))
 else
 False)
 else
 False)
 else
 (if 0 ≤ (↑(ByteArray.size r2) : Int) ∧ (↑(ByteArray.size r2) : Int) ≤ (↑(ByteArray.size r2) : Int) then
 (if (0 ≤ if 3 < r3 then 3 else r3) ∧ (if 3 < r3 then 3 else r3) ≤ (↑(ByteArray.size r2) : Int) then
 xrule_sixty (ByteArray.extract r2 (Int.toNat (if 3 < r3 then 3 else r3)) (Int.toNat (↑(ByteArray.size r2) : Int))) (fun r16 r17 r18 =>
 xrule_more r17 r18 (fun r19 r20 r21 =>
 (lt (w64 (w64 (r4 * 3600) + w64 (r16 * 60))) fun v22 =>
 (lt (w64 (1 * w64 (v22 + r19))) fun v23 =>
 K v23 r20 true))))
 else
 False)
 else
 False)))
 else
 False)
 else
 False))))
 else
 xrule_digits r1 (fun r24 =>
 (if ((if 3 < r24 then 3 else r24) == 0) then
 K 0 a0 false
 else
 (if (0 ≤ if 3 < r24 then 3 else r24) ∧ (if 3 < r24 then 3 else r24) ≤ (↑(ByteArray.size r1) : Int) then
 (if (0 :Int) ≤ 0 ∧ 0 ≤ if 3 < r24 then 3 else r24 then
 xatoi (ByteArray.extract r1 (0 : Nat) (Int.toNat (if 3 < r24 then 3 else r24))) (fun r25 r26 =>
 (if decide (r25 > 167) then
 (if 0 ≤ (↑(ByteArray.size r1) : Int) ∧ (↑(ByteArray.size r1) : Int) ≤ (↑(ByteArray.size r1) : Int) then
 (if 0 ≤ w64 ((if 3 < r24 then 3 else r24) - 1) ∧ w64 ((if 3 < r24 then 3 else r24) - 1) ≤ (↑(ByteArray.size r1) : Int) then
 (lt (ByteArray.extract r1 (Int.toNat (w64 ((if 3 < r24 then 3 else r24) - 1))) (Int.toNat (↑(ByteArray.size r1) : Int))) fun v27 =>
 xrule_sixty v27 (fun r28 r29 r30 =>
 xrule_more r29 r30 (fun r31 r32 r33 =>
 (lt (w64 (w64 (Int.tdiv r25 10) * 3600)) fun v34 =>
 (lt (w64 (v34 + w64 (r28 * 60))) fun v35 =>
 (lt (w64 ((-1) * w64 (v35 + r31))) fun v36 =>
 K v36 r32 true))))))
 else
 False)
 else
 False)
 else
 (if 0 ≤ (↑(ByteArray.size r1) : Int) ∧ (↑(ByteArray.size r1) : Int) ≤ (↑(ByteArray.size r1) : Int) then
 (if (0 ≤ if 3 < r24 then 3 else r24) ∧ (if 3 < r24 then 3 else r24) ≤ (↑(ByteArray.size r1) : Int) then
 xrule_sixty (ByteArray.extract r1 (Int.toNat (if 3 < r24 then 3 else r24)) (Int.toNat (↑(ByteArray.size r1) : Int))) (fun r37 r38 r39 =>
 xrule_more r38 r39 (fun r40 r41 r42 =>
 (lt (w64 (w64 (r25 * 3600) + w64 (r37 * 60))) fun v43 =>
 (lt (w64 ((-1) * w64 (v43 + r40))) fun v44 =>
 K v44 r41 true))))
 else
 False)
 else
 False)))
 else
 False)
 else
 False)))))
def Xrule_Time : Trule_Time := Yrule_Time Xstrings_TrimPrefix Xrule_digits Xatoi Xrule_sixty Xrule_more
def Jrule_Time (X : Trule_Time) : Inst := mkI 210 pL8 .nil pL60 .nil X
def Irule_Time : Inst := Jrule_Time Xrule_Time
theorem Erule_Time (xstrings_TrimPrefix : Tstrings_TrimPrefix) (xrule_digits : Trule_digits) (xatoi : Tatoi) (xrule_sixty : Trule_sixty) (xrule_more : Trule_more) : EqF Tryz.prog 68 gives Tryz.f210 [Jstrings_TrimPrefix xstrings_TrimPrefix, Jrule_digits xrule_digits, Jatoi xatoi, Jrule_sixty xrule_sixty, Jrule_more xrule_more] [] (Jrule_Time (Yrule_Time xstrings_TrimPrefix xrule_digits xatoi xrule_sixty xrule_more)) := fun x y K => by kernel_rfl
theorem Irule_Time_ok : InstOk Tryz.prog G.1 Irule_Time := iok (gives := gives) [] (okCons Istrings_TrimPrefix_ok (okCons Irule_digits_ok (okCons Iatoi_ok (okCons Irule_sixty_ok (okCons Irule_more_ok okNil))))) 68 follows Tryz.func210 (by kernel_rfl) (fun x => by kernel_rfl) (Erule_Time Xstrings_TrimPrefix Xrule_digits Xatoi Xrule_sixty Xrule_more)
abbrev Tfoot_reader_usual : Type := ByteArray → Int → Bool → ByteArray → Int → Bool → ByteArray → Bool → Int → Int → Int → Int → Int → Int → Int → Int → Int → Int → (Bool → ByteArray → Int → Bool → ByteArray → Int → Bool → ByteArray → Bool → Int → Int → Int → Int → Int → Int → Int → Int → Int → Int → Prop) → Prop
def Yfoot_reader_usual (xfoot_reader_name : Tfoot_reader_name) (xrule_Time : Trule_Time) (a0 : ByteArray) (a1 : Int) (a2 : Bool) (a3 : ByteArray) (a4 : Int) (a5 : Bool) (a6 : ByteArray) (a7 : Bool) (a8 : Int) (a9 : Int) (a10 : Int) (a11 : Int) (a12 : Int) (a13 : Int) (a14 : Int) (a15 : Int) (a16 : Int) (a17 : Int) (K : Bool → ByteArray → Int → Bool → ByteArray → Int → Bool → ByteArray → Bool → Int → Int → Int → Int → Int → Int → Int → Int → Int → Int → Prop) : Prop :=
 xfoot_reader_name a0 a1 a2 a3 a4 a5 a6 a7 a8 a9 a10 a11 a12 a13 a14 a15 a16 a17 (fun r18 r19 r20 r21 r22 r23 r24 r25 r26 r27 r28 r29 r30 r31 r32 r33 r34 r35 r36 r37 =>
 xrule_Time r20 (fun r38 r39 r40 =>
 (if r19 then
 K r40 r39 (w64 (0 - r38)) false r18 r24 r25 r26 r27 r28 r29 r30 r31 r32 r33 r34 r35 r36 r37
 else
 K false r39 (w64 (0 - r38)) false r18 r24 r25 r26 r27 r28 r29 r30 r31 r32 r33 r34 r35 r36 r37)))
def Xfoot_reader_usual : Tfoot_reader_usual := Yfoot_reader_usual Xfoot_reader_name Xrule_Time
def Jfoot_reader_usual (X : Tfoot_reader_usual) : Inst := mkI 173 pL55 pH56 pL1 pH56 X
def Ifoot_reader_usual : Inst := Jfoot_reader_usual Xfoot_reader_usual
theorem Efoot_reader_usual (xfoot_reader_name : Tfoot_reader_name) (xrule_Time : Trule_Time) : EqF Tryz.prog 38 gives Tryz.f173 [Jfoot_reader_name xfoot_reader_name, Jrule_Time xrule_Time] [] (Jfoot_reader_usual (Yfoot_reader_usual xfoot_reader_name xrule_Time)) := fun x y K => by kernel_rfl
theorem Ifoot_reader_usual_ok : InstOk Tryz.prog G.1 Ifoot_reader_usual := iok (gives := gives) [] (okCons Ifoot_reader_name_ok (okCons Irule_Time_ok okNil)) 38 follows Tryz.func173 (by kernel_rfl) (fun x => by kernel_rfl) (Efoot_reader_usual Xfoot_reader_name Xrule_Time)
abbrev Tfoot_reader_summer : Type := ByteArray → Int → Bool → ByteArray → Int → Bool → ByteArray → Bool → Int → Int → Int → Int → Int → Int → Int → Int → Int → Int → (Bool → ByteArray → Int → Bool → ByteArray → Int → Bool → ByteArray → Bool → Int → Int → Int → Int → Int → Int → Int → Int → Int → Int → Prop) → Prop
def Yfoot_reader_summer (xfoot_reader_name : Tfoot_reader_name) (xrule_Time : Trule_Time) (a0 : ByteArray) (a1 : Int) (a2 : Bool) (a3 : ByteArray) (a4 : Int) (a5 : Bool) (a6 : ByteArray) (a7 : Bool) (a8 : Int) (a9 : Int) (a10 : Int) (a11 : Int) (a12 : Int) (a13 : Int) (a14 : Int) (a15 : Int) (a16 : Int) (a17 : Int) (K : Bool → ByteArray → Int → Bool → ByteArray → Int → Bool → ByteArray → Bool → Int → Int → Int → Int → Int → Int → Int → Int → Int → Int → Prop) : Prop :=
 xfoot_reader_name a0 a1 a2 a3 a4 a5 a6 a7 a8 a9 a10 a11 a12 a13 a14 a15 a16 a17 (fun r18 r19 r20 r21 r22 r23 r24 r25 r26 r27 r28 r29 r30 r31 r32 r33 r34 r35 r36 r37 =>
 xrule_Time r20 (fun r38 r39 r40 =>
 (if r40 then
 K r19 r39 r21 r22 r23 (w64 (0 - r38)) true r18 true r28 r29 r30 r31 r32 r33 r34 r35 r36 r37
 else
 K r19 r20 r21 r22 r23 (w64 (r21 + 3600)) true r18 true r28 r29 r30 r31 r32 r33 r34 r35 r36 r37)))
def Xfoot_reader_summer : Tfoot_reader_summer := Yfoot_reader_summer Xfoot_reader_name Xrule_Time
def Jfoot_reader_summer (X : Tfoot_reader_summer) : Inst := mkI 174 pL55 pH56 pL1 pH56 X
def Ifoot_reader_summer : Inst := Jfoot_reader_summer Xfoot_reader_summer
theorem Efoot_reader_summer (xfoot_reader_name : Tfoot_reader_name) (xrule_Time : Trule_Time) : EqF Tryz.prog 50 gives Tryz.f174 [Jfoot_reader_name xfoot_reader_name, Jrule_Time xrule_Time] [] (Jfoot_reader_summer (Yfoot_reader_summer xfoot_reader_name xrule_Time)) := fun x y K => by kernel_rfl
theorem Ifoot_reader_summer_ok : InstOk Tryz.prog G.1 Ifoot_reader_summer := iok (gives := gives) [] (okCons Ifoot_reader_name_ok (okCons Irule_Time_ok okNil)) 50 follows Tryz.func174 (by kernel_rfl) (fun x => by kernel_rfl) (Efoot_reader_summer Xfoot_reader_name Xrule_Time)
abbrev Trule_number : Type := ByteArray → Int → (Int → ByteArray → Bool → Prop) → Prop
def Yrule_number (xrule_digits : Trule_digits) (xatoi : Tatoi) (a0 : ByteArray) (a1 : Int) (K : Int → ByteArray → Bool → Prop) : Prop :=
 xrule_digits a0 (fun r2 =>
 (if (r2 == 0) then
 K 0 a0 false
 else
 (if decide (r2 > a1) then
 K 0 a0 false
 else
 (if 0 ≤ r2 ∧ r2 ≤ (↑(ByteArray.size a0) : Int) then
 (if (0 :Int) ≤ 0 ∧ 0 ≤ r2 then
 xatoi (ByteArray.extract a0 (0 : Nat) (Int.toNat r2)) (fun r3 r4 =>
 (if 0 ≤ (↑(ByteArray.size a0) : Int) ∧ (↑(ByteArray.size a0) : Int) ≤ (↑(ByteArray.size a0) : Int) then
 (if 0 ≤ r2 ∧ r2 ≤ (↑(ByteArray.size a0) : Int) then
 K r3 (ByteArray.extract a0 (Int.toNat r2) (Int.toNat (↑(ByteArray.size a0) : Int))) true
 else
 False)
 else
 False))
 else
 False)
 else
 False))))
def Xrule_number : Trule_number := Yrule_number Xrule_digits Xatoi
def Jrule_number (X : Trule_number) : Inst := mkI 270 pL61 .nil pL60 .nil X
def Irule_number : Inst := Jrule_number Xrule_number
theorem Erule_number (xrule_digits : Trule_digits) (xatoi : Tatoi) : EqF Tryz.prog 29 gives Tryz.f270 [Jrule_digits xrule_digits, Jatoi xatoi] [] (Jrule_number (Yrule_number xrule_digits xatoi)) := fun x y K => by kernel_rfl
theorem Irule_number_ok : InstOk Tryz.prog G.1 Irule_number := iok (gives := gives) [] (okCons Irule_digits_ok (okCons Iatoi_ok okNil)) 29 follows Tryz.func270 (by kernel_rfl) (fun x => by kernel_rfl) (Erule_number Xrule_digits Xatoi)
abbrev Trule_week : Type := ByteArray → (Q45 → ByteArray → Bool → Prop) → Prop
def Yrule_week (xrule_number : Trule_number) (xstrings_CutPrefix : Tstrings_CutPrefix) (a0 : ByteArray) (K : Q45 → ByteArray → Bool → Prop) : Prop :=
 xrule_number a0 2 (fun r1 r2 r3 =>
 xstrings_CutPrefix r2 (ByteArray.mk #[(46 : UInt8)]) (fun r4 r5 =>
 xrule_number r4 1 (fun r6 r7 r8 =>
 xstrings_CutPrefix r7 (ByteArray.mk #[(46 : UInt8)]) (fun r9 r10 =>
 xrule_number r9 1 (fun r11 r12 r13 =>
 (if r3 then
 (if r8 then
 (if r13 then
 (if r5 then
 K (0, r1, r6, r11, 0, ()) r12 r10
 else
 K (0, r1, r6, r11, 0, ()) r12 false)
 else
 K (0, r1, r6, r11, 0, ()) r12 false)
 else
 K (0, r1, r6, r11, 0, ()) r12 false)
 else
 K (0, r1, r6, r11, 0, ()) r12 false))))))
def Xrule_week : Trule_week := Yrule_week Xrule_number Xstrings_CutPrefix
def Jrule_week (X : Trule_week) : Inst := mkI 269 pL8 .nil pL62 .nil X
def Irule_week : Inst := Jrule_week Xrule_week
theorem Erule_week (xrule_number : Trule_number) (xstrings_CutPrefix : Tstrings_CutPrefix) : EqF Tryz.prog 63 gives Tryz.f269 [Jrule_number xrule_number, Jstrings_CutPrefix xstrings_CutPrefix] [] (Jrule_week (Yrule_week xrule_number xstrings_CutPrefix)) := fun x y K => by kernel_rfl
theorem Irule_week_ok : InstOk Tryz.prog G.1 Irule_week := iok (gives := gives) [] (okCons Irule_number_ok (okCons Istrings_CutPrefix_ok okNil)) 63 follows Tryz.func269 (by kernel_rfl) (fun x => by kernel_rfl) (Erule_week Xrule_number Xstrings_CutPrefix)
abbrev Trule_date : Type := ByteArray → (Q45 → ByteArray → Bool → Prop) → Prop
def Yrule_date (xstrings_CutPrefix : Tstrings_CutPrefix) (xrule_week : Trule_week) (xrule_number : Trule_number) (a0 : ByteArray) (K : Q45 → ByteArray → Bool → Prop) : Prop :=
 xstrings_CutPrefix a0 (ByteArray.mk #[(77 : UInt8)]) (fun r1 r2 =>
 (if r2 then
 xrule_week r1 (fun r3 r4 r5 =>
 K r3 r4 r5)
 else
 xstrings_CutPrefix a0 (ByteArray.mk #[(74 : UInt8)]) (fun r6 r7 =>
 (if r7 then
 xrule_number r6 3 (fun r8 r9 r10 =>
 K (1, r8, 0, 0, 0, ()) r9 r10)
 else
 xrule_number r6 3 (fun r11 r12 r13 =>
 K (2, r11, 0, 0, 0, ()) r12 r13)))))
def Xrule_date : Trule_date := Yrule_date Xstrings_CutPrefix Xrule_week Xrule_number
def Jrule_date (X : Trule_date) : Inst := mkI 254 pL8 .nil pL62 .nil X
def Irule_date : Inst := Jrule_date Xrule_date
theorem Erule_date (xstrings_CutPrefix : Tstrings_CutPrefix) (xrule_week : Trule_week) (xrule_number : Trule_number) : EqF Tryz.prog 38 gives Tryz.f254 [Jstrings_CutPrefix xstrings_CutPrefix, Jrule_week xrule_week, Jrule_number xrule_number] [] (Jrule_date (Yrule_date xstrings_CutPrefix xrule_week xrule_number)) := fun x y K => by kernel_rfl
theorem Irule_date_ok : InstOk Tryz.prog G.1 Irule_date := iok (gives := gives) [] (okCons Istrings_CutPrefix_ok (okCons Irule_week_ok (okCons Irule_number_ok okNil))) 38 follows Tryz.func254 (by kernel_rfl) (fun x => by kernel_rfl) (Erule_date Xstrings_CutPrefix Xrule_week Xrule_number)
abbrev Trule_Parse : Type := ByteArray → (Q45 → ByteArray → Bool → Prop) → Prop
def Yrule_Parse (xrule_date : Trule_date) (xstrings_CutPrefix : Tstrings_CutPrefix) (xrule_Time : Trule_Time) (xrule_Right : Trule_Right) (a0 : ByteArray) (K : Q45 → ByteArray → Bool → Prop) : Prop :=
 xrule_date a0 (fun r1 r2 r3 =>
 xstrings_CutPrefix r2 (ByteArray.mk #[(47 : UInt8)]) (fun r4 r5 =>
 (if r3 then
 (if r5 then
 xrule_Time r4 (fun r6 r7 r8 =>
 (if (!r8) then
 K (0, 0, 0, 0, 0, ()) a0 false
 else
 xrule_Right (r1.1, r1.2.1, r1.2.2.1, r1.2.2.2.1, r6, ()) (fun r9 =>
 (if (!r9) then
 K (0, 0, 0, 0, 0, ()) a0 false
 else
 K (r1.1, r1.2.1, r1.2.2.1, r1.2.2.2.1, r6, ()) r7 true))))
 else
 (if (!r3) then
 K (0, 0, 0, 0, 0, ()) a0 false
 else
 xrule_Right (r1.1, r1.2.1, r1.2.2.1, r1.2.2.2.1, 7200, ()) (fun r10 =>
 (if (!r10) then
 K (0, 0, 0, 0, 0, ()) a0 false
 else
 K (r1.1, r1.2.1, r1.2.2.1, r1.2.2.2.1, 7200, ()) r2 true))))
 else
 (if (!r3) then
 K (0, 0, 0, 0, 0, ()) a0 false
 else
 xrule_Right (r1.1, r1.2.1, r1.2.2.1, r1.2.2.2.1, 7200, ()) (fun r11 =>
 (if (!r11) then
 K (0, 0, 0, 0, 0, ()) a0 false
 else
 K (r1.1, r1.2.1, r1.2.2.1, r1.2.2.2.1, 7200, ()) r2 true))))))
def Xrule_Parse : Trule_Parse := Yrule_Parse Xrule_date Xstrings_CutPrefix Xrule_Time Xrule_Right
def Jrule_Parse (X : Trule_Parse) : Inst := mkI 237 pL8 .nil pL62 .nil X
def Irule_Parse : Inst := Jrule_Parse Xrule_Parse
theorem Erule_Parse (xrule_date : Trule_date) (xstrings_CutPrefix : Tstrings_CutPrefix) (xrule_Time : Trule_Time) (xrule_Right : Trule_Right) : EqF Tryz.prog 44 gives Tryz.f237 [Jrule_date xrule_date, Jstrings_CutPrefix xstrings_CutPrefix, Jrule_Time xrule_Time, Jrule_Right xrule_Right] [] (Jrule_Parse (Yrule_Parse xrule_date xstrings_CutPrefix xrule_Time xrule_Right)) := fun x y K => by kernel_rfl
theorem Irule_Parse_ok : InstOk Tryz.prog G.1 Irule_Parse := iok (gives := gives) [] (okCons Irule_date_ok (okCons Istrings_CutPrefix_ok (okCons Irule_Time_ok (okCons Irule_Right_ok okNil)))) 44 follows Tryz.func237 (by kernel_rfl) (fun x => by kernel_rfl) (Erule_Parse Xrule_date Xstrings_CutPrefix Xrule_Time Xrule_Right)
abbrev Tfoot_reader_rule : Type := ByteArray → Int → Bool → ByteArray → Int → Bool → ByteArray → Bool → Int → Int → Int → Int → Int → Int → Int → Int → Int → Int → (Bool → ByteArray → Int → Bool → ByteArray → Int → Bool → ByteArray → Bool → Int → Int → Int → Int → Int → Int → Int → Int → Int → Int → Prop) → Prop
def Yfoot_reader_rule (xstrings_CutPrefix : Tstrings_CutPrefix) (xrule_Parse : Trule_Parse) (a0 : ByteArray) (a1 : Int) (a2 : Bool) (a3 : ByteArray) (a4 : Int) (a5 : Bool) (a6 : ByteArray) (a7 : Bool) (a8 : Int) (a9 : Int) (a10 : Int) (a11 : Int) (a12 : Int) (a13 : Int) (a14 : Int) (a15 : Int) (a16 : Int) (a17 : Int) (K : Bool → ByteArray → Int → Bool → ByteArray → Int → Bool → ByteArray → Bool → Int → Int → Int → Int → Int → Int → Int → Int → Int → Int → Prop) : Prop :=
 xstrings_CutPrefix a0 (ByteArray.mk #[(44 : UInt8)]) (fun r18 r19 =>
 xrule_Parse r18 (fun r20 r21 r22 =>
 (if r22 then
 K r19 r21 a1 a2 a3 a4 a5 a6 a7 r20.1 r20.2.1 r20.2.2.1 r20.2.2.2.1 r20.2.2.2.2.1 a13 a14 a15 a16 a17
 else
 K false r21 a1 a2 a3 a4 a5 a6 a7 r20.1 r20.2.1 r20.2.2.1 r20.2.2.2.1 r20.2.2.2.2.1 a13 a14 a15 a16 a17)))
def Xfoot_reader_rule : Tfoot_reader_rule := Yfoot_reader_rule Xstrings_CutPrefix Xrule_Parse
def Jfoot_reader_rule (X : Tfoot_reader_rule) : Inst := mkI 211 pL63 pH56 pL1 pH56 X
def Ifoot_reader_rule : Inst := Jfoot_reader_rule Xfoot_reader_rule
theorem Efoot_reader_rule (xstrings_CutPrefix : Tstrings_CutPrefix) (xrule_Parse : Trule_Parse) : EqF Tryz.prog 30 gives Tryz.f211 [Jstrings_CutPrefix xstrings_CutPrefix, Jrule_Parse xrule_Parse] [] (Jfoot_reader_rule (Yfoot_reader_rule xstrings_CutPrefix xrule_Parse)) := fun x y K => by kernel_rfl
theorem Ifoot_reader_rule_ok : InstOk Tryz.prog G.1 Ifoot_reader_rule := iok (gives := gives) [] (okCons Istrings_CutPrefix_ok (okCons Irule_Parse_ok okNil)) 30 follows Tryz.func211 (by kernel_rfl) (fun x => by kernel_rfl) (Efoot_reader_rule Xstrings_CutPrefix Xrule_Parse)
abbrev Tfoot_reader_from : Type := ByteArray → Int → Bool → ByteArray → Int → Bool → ByteArray → Bool → Int → Int → Int → Int → Int → Int → Int → Int → Int → Int → (Bool → ByteArray → Int → Bool → ByteArray → Int → Bool → ByteArray → Bool → Int → Int → Int → Int → Int → Int → Int → Int → Int → Int → Prop) → Prop
def Yfoot_reader_from (xfoot_reader_rule : Tfoot_reader_rule) (a0 : ByteArray) (a1 : Int) (a2 : Bool) (a3 : ByteArray) (a4 : Int) (a5 : Bool) (a6 : ByteArray) (a7 : Bool) (a8 : Int) (a9 : Int) (a10 : Int) (a11 : Int) (a12 : Int) (a13 : Int) (a14 : Int) (a15 : Int) (a16 : Int) (a17 : Int) (K : Bool → ByteArray → Int → Bool → ByteArray → Int → Bool → ByteArray → Bool → Int → Int → Int → Int → Int → Int → Int → Int → Int → Int → Prop) : Prop :=
 xfoot_reader_rule a0 a1 a2 a3 a4 a5 a6 a7 a8 a9 a10 a11 a12 a13 a14 a15 a16 a17 (fun r18 r19 r20 r21 r22 r23 r24 r25 r26 r27 r28 r29 r30 r31 r32 r33 r34 r35 r36 =>
 K r18 r19 r20 r21 r22 r23 r24 r25 r26 r27 r28 r29 r30 r31 r32 r33 r34 r35 r36)
def Xfoot_reader_from : Tfoot_reader_from := Yfoot_reader_from Xfoot_reader_rule
def Jfoot_reader_from (X : Tfoot_reader_from) : Inst := mkI 175 pL55 pH56 pL1 pH56 X
def Ifoot_reader_from : Inst := Jfoot_reader_from Xfoot_reader_from
theorem Efoot_reader_from (xfoot_reader_rule : Tfoot_reader_rule) : EqF Tryz.prog 9 gives Tryz.f175 [Jfoot_reader_rule xfoot_reader_rule] [] (Jfoot_reader_from (Yfoot_reader_from xfoot_reader_rule)) := fun x y K => by kernel_rfl
theorem Ifoot_reader_from_ok : InstOk Tryz.prog G.1 Ifoot_reader_from := iok (gives := gives) [] (okCons Ifoot_reader_rule_ok okNil) 9 follows Tryz.func175 (by kernel_rfl) (fun x => by kernel_rfl) (Efoot_reader_from Xfoot_reader_rule)
abbrev Tfoot_reader_rule_1 : Type := ByteArray → Int → Bool → ByteArray → Int → Bool → ByteArray → Bool → Int → Int → Int → Int → Int → Int → Int → Int → Int → Int → (Bool → ByteArray → Int → Bool → ByteArray → Int → Bool → ByteArray → Bool → Int → Int → Int → Int → Int → Int → Int → Int → Int → Int → Prop) → Prop
def Yfoot_reader_rule_1 (xstrings_CutPrefix : Tstrings_CutPrefix) (xrule_Parse : Trule_Parse) (a0 : ByteArray) (a1 : Int) (a2 : Bool) (a3 : ByteArray) (a4 : Int) (a5 : Bool) (a6 : ByteArray) (a7 : Bool) (a8 : Int) (a9 : Int) (a10 : Int) (a11 : Int) (a12 : Int) (a13 : Int) (a14 : Int) (a15 : Int) (a16 : Int) (a17 : Int) (K : Bool → ByteArray → Int → Bool → ByteArray → Int → Bool → ByteArray → Bool → Int → Int → Int → Int → Int → Int → Int → Int → Int → Int → Prop) : Prop :=
 xstrings_CutPrefix a0 (ByteArray.mk #[(44 : UInt8)]) (fun r18 r19 =>
 xrule_Parse r18 (fun r20 r21 r22 =>
 (if r22 then
 K r19 r21 a1 a2 a3 a4 a5 a6 a7 a8 a9 a10 a11 a12 r20.1 r20.2.1 r20.2.2.1 r20.2.2.2.1 r20.2.2.2.2.1
 else
 K false r21 a1 a2 a3 a4 a5 a6 a7 a8 a9 a10 a11 a12 r20.1 r20.2.1 r20.2.2.1 r20.2.2.2.1 r20.2.2.2.2.1)))
def Xfoot_reader_rule_1 : Tfoot_reader_rule_1 := Yfoot_reader_rule_1 Xstrings_CutPrefix Xrule_Parse
def Jfoot_reader_rule_1 (X : Tfoot_reader_rule_1) : Inst := mkI 211 pL64 pH56 pL1 pH56 X
def Ifoot_reader_rule_1 : Inst := Jfoot_reader_rule_1 Xfoot_reader_rule_1
theorem Efoot_reader_rule_1 (xstrings_CutPrefix : Tstrings_CutPrefix) (xrule_Parse : Trule_Parse) : EqF Tryz.prog 30 gives Tryz.f211 [Jstrings_CutPrefix xstrings_CutPrefix, Jrule_Parse xrule_Parse] [] (Jfoot_reader_rule_1 (Yfoot_reader_rule_1 xstrings_CutPrefix xrule_Parse)) := fun x y K => by kernel_rfl
theorem Ifoot_reader_rule_1_ok : InstOk Tryz.prog G.1 Ifoot_reader_rule_1 := iok (gives := gives) [] (okCons Istrings_CutPrefix_ok (okCons Irule_Parse_ok okNil)) 30 follows Tryz.func211 (by kernel_rfl) (fun x => by kernel_rfl) (Efoot_reader_rule_1 Xstrings_CutPrefix Xrule_Parse)
abbrev Tfoot_reader_to : Type := ByteArray → Int → Bool → ByteArray → Int → Bool → ByteArray → Bool → Int → Int → Int → Int → Int → Int → Int → Int → Int → Int → (Bool → ByteArray → Int → Bool → ByteArray → Int → Bool → ByteArray → Bool → Int → Int → Int → Int → Int → Int → Int → Int → Int → Int → Prop) → Prop
def Yfoot_reader_to (xfoot_reader_rule_1 : Tfoot_reader_rule_1) (a0 : ByteArray) (a1 : Int) (a2 : Bool) (a3 : ByteArray) (a4 : Int) (a5 : Bool) (a6 : ByteArray) (a7 : Bool) (a8 : Int) (a9 : Int) (a10 : Int) (a11 : Int) (a12 : Int) (a13 : Int) (a14 : Int) (a15 : Int) (a16 : Int) (a17 : Int) (K : Bool → ByteArray → Int → Bool → ByteArray → Int → Bool → ByteArray → Bool → Int → Int → Int → Int → Int → Int → Int → Int → Int → Int → Prop) : Prop :=
 xfoot_reader_rule_1 a0 a1 a2 a3 a4 a5 a6 a7 a8 a9 a10 a11 a12 a13 a14 a15 a16 a17 (fun r18 r19 r20 r21 r22 r23 r24 r25 r26 r27 r28 r29 r30 r31 r32 r33 r34 r35 r36 =>
 K r18 r19 r20 r21 r22 r23 r24 r25 r26 r27 r28 r29 r30 r31 r32 r33 r34 r35 r36)
def Xfoot_reader_to : Tfoot_reader_to := Yfoot_reader_to Xfoot_reader_rule_1
def Jfoot_reader_to (X : Tfoot_reader_to) : Inst := mkI 176 pL55 pH56 pL1 pH56 X
def Ifoot_reader_to : Inst := Jfoot_reader_to Xfoot_reader_to
theorem Efoot_reader_to (xfoot_reader_rule_1 : Tfoot_reader_rule_1) : EqF Tryz.prog 9 gives Tryz.f176 [Jfoot_reader_rule_1 xfoot_reader_rule_1] [] (Jfoot_reader_to (Yfoot_reader_to xfoot_reader_rule_1)) := fun x y K => by kernel_rfl
theorem Ifoot_reader_to_ok : InstOk Tryz.prog G.1 Ifoot_reader_to := iok (gives := gives) [] (okCons Ifoot_reader_rule_1_ok okNil) 9 follows Tryz.func176 (by kernel_rfl) (fun x => by kernel_rfl) (Efoot_reader_to Xfoot_reader_rule_1)
abbrev Tfoot_Parse : Type := ByteArray → (Q47 → Bool → Prop) → Prop
def Lfoot_Parse_0p : Lp := ⟨1835036, [], .nil, .nil, 12⟩
def Yfoot_Parse (xfoot_reader_usual : Tfoot_reader_usual) (xfoot_Right : Tfoot_Right) (xfoot_reader_summer : Tfoot_reader_summer) (xfoot_reader_from : Tfoot_reader_from) (xfoot_reader_to : Tfoot_reader_to) (a0 : ByteArray) (K : Q47 → Bool → Prop) : Prop :=
 xfoot_reader_usual a0 0 false (ByteArray.mk #[]) 0 false (ByteArray.mk #[]) false 0 0 0 0 0 0 0 0 0 0 (fun r1 r2 r3 r4 r5 r6 r7 r8 r9 r10 r11 r12 r13 r14 r15 r16 r17 r18 r19 =>
 (if (!r1) then
 K (0, false, ByteArray.mk #[], 0, false, ByteArray.mk #[], false, 0, 0, 0, 0, 0, 0, 0, 0, 0, 0, ()) false
 else
 (if (ByteArray.toList r2 == ByteArray.toList (ByteArray.mk #[])) then
 (if (!ByteArray.toList r2 == ByteArray.toList (ByteArray.mk #[])) then
 K (0, false, ByteArray.mk #[], 0, false, ByteArray.mk #[], false, 0, 0, 0, 0, 0, 0, 0, 0, 0, 0, ()) false
 else
 xfoot_Right (r3, r4, r5, r6, r7, r8, r9, r10, r11, r12, r13, r14, r15, r16, r17, r18, r19, ()) (fun r20 =>
 (if (!r20) then
 K (0, false, ByteArray.mk #[], 0, false, ByteArray.mk #[], false, 0, 0, 0, 0, 0, 0, 0, 0, 0, 0, ()) false
 else
 K (r3, r4, r5, r6, r7, r8, r9, r10, r11, r12, r13, r14, r15, r16, r17, r18, r19, ()) true)))
 else
 xfoot_reader_summer r2 r3 r4 r5 r6 r7 r8 r9 r10 r11 r12 r13 r14 r15 r16 r17 r18 r19 (fun r21 r22 r23 r24 r25 r26 r27 r28 r29 r30 r31 r32 r33 r34 r35 r36 r37 r38 r39 =>
 (if (!r21) then
 K (0, false, ByteArray.mk #[], 0, false, ByteArray.mk #[], false, 0, 0, 0, 0, 0, 0, 0, 0, 0, 0, ()) false
 else
 xfoot_reader_from r22 r23 r24 r25 r26 r27 r28 r29 r30 r31 r32 r33 r34 r35 r36 r37 r38 r39 (fun r40 r41 r42 r43 r44 r45 r46 r47 r48 r49 r50 r51 r52 r53 r54 r55 r56 r57 r58 =>
 (if (!r40) then
 K (0, false, ByteArray.mk #[], 0, false, ByteArray.mk #[], false, 0, 0, 0, 0, 0, 0, 0, 0, 0, 0, ()) false
 else
 xfoot_reader_to r41 r42 r43 r44 r45 r46 r47 r48 r49 r50 r51 r52 r53 r54 r55 r56 r57 r58 (fun r59 r60 r61 r62 r63 r64 r65 r66 r67 r68 r69 r70 r71 r72 r73 r74 r75 r76 r77 =>
 (if (!r59) then
 K (0, false, ByteArray.mk #[], 0, false, ByteArray.mk #[], false, 0, 0, 0, 0, 0, 0, 0, 0, 0, 0, ()) false
 else
 (if (!ByteArray.toList r60 == ByteArray.toList (ByteArray.mk #[])) then
 K (0, false, ByteArray.mk #[], 0, false, ByteArray.mk #[], false, 0, 0, 0, 0, 0, 0, 0, 0, 0, 0, ()) false
 else
 xfoot_Right (r61, r62, r63, r64, r65, r66, r67, r68, r69, r70, r71, r72, r73, r74, r75, r76, r77, ()) (fun r78 =>
 (if (!r78) then
 K (0, false, ByteArray.mk #[], 0, false, ByteArray.mk #[], false, 0, 0, 0, 0, 0, 0, 0, 0, 0, 0, ()) false
 else
 K (r61, r62, r63, r64, r65, r66, r67, r68, r69, r70, r71, r72, r73, r74, r75, r76, r77, ()) true))))))))))))
def Xfoot_Parse : Tfoot_Parse := Yfoot_Parse Xfoot_reader_usual Xfoot_Right Xfoot_reader_summer Xfoot_reader_from Xfoot_reader_to
def Jfoot_Parse (X : Tfoot_Parse) : Inst := mkI 118 pL8 .nil pL65 .nil X
def Ifoot_Parse : Inst := Jfoot_Parse Xfoot_Parse
theorem Efoot_Parse (xfoot_reader_usual : Tfoot_reader_usual) (xfoot_Right : Tfoot_Right) (xfoot_reader_summer : Tfoot_reader_summer) (xfoot_reader_from : Tfoot_reader_from) (xfoot_reader_to : Tfoot_reader_to) : EqF Tryz.prog 57 gives Tryz.f118 [Jfoot_reader_usual xfoot_reader_usual, Jfoot_Right xfoot_Right, Jfoot_reader_summer xfoot_reader_summer, Jfoot_reader_from xfoot_reader_from, Jfoot_reader_to xfoot_reader_to] [Lfoot_Parse_0p] (Jfoot_Parse (Yfoot_Parse xfoot_reader_usual xfoot_Right xfoot_reader_summer xfoot_reader_from xfoot_reader_to)) := fun x y K => by kernel_rfl
theorem Ifoot_Parse_ok : InstOk Tryz.prog G.1 Ifoot_Parse := iok (gives := gives) [Lfoot_Parse_0p] (okCons Ifoot_reader_usual_ok (okCons Ifoot_Right_ok (okCons Ifoot_reader_summer_ok (okCons Ifoot_reader_from_ok (okCons Ifoot_reader_to_ok okNil))))) 57 follows Tryz.func118 (by kernel_rfl) (fun x => by kernel_rfl) (Efoot_Parse Xfoot_reader_usual Xfoot_Right Xfoot_reader_summer Xfoot_reader_from Xfoot_reader_to)
abbrev Tzone_odd : Type := Q45 → (Bool → Prop) → Prop
def Yzone_odd (a0 : Q45) (K : Bool → Prop) : Prop :=
 (if decide (a0.2.2.2.2.1 < 0) then
 K true
 else
 K (decide (a0.2.2.2.2.1 > 86400)))
def Xzone_odd : Tzone_odd := Yzone_odd
def Jzone_odd (X : Tzone_odd) : Inst := mkI 123 pL46 .nil pL1 .nil X
def Izone_odd : Inst := Jzone_odd Xzone_odd
theorem Ezone_odd : EqF Tryz.prog 11 gives Tryz.f123 [] [] (Jzone_odd (Yzone_odd)) := fun x y K => by kernel_rfl
theorem Izone_odd_ok : InstOk Tryz.prog G.1 Izone_odd := iok (gives := gives) [] okNil 11 follows Tryz.func123 (by kernel_rfl) (fun x => by kernel_rfl) (Ezone_odd)
abbrev Tzone_ends : Type := Q15 → (Bool → Prop) → Prop
def Yzone_ends (xfoot_Parse : Tfoot_Parse) (xzone_odd : Tzone_odd) (a0 : Q15) (K : Bool → Prop) : Prop :=
 (if (ByteArray.toList a0.2.2.2.1 == ByteArray.toList (ByteArray.mk #[])) then
 K true
 else
 xfoot_Parse a0.2.2.2.1 (fun r1 r2 =>
 xzone_odd (r1.2.2.2.2.2.2.2.1, r1.2.2.2.2.2.2.2.2.1, r1.2.2.2.2.2.2.2.2.2.1, r1.2.2.2.2.2.2.2.2.2.2.1, r1.2.2.2.2.2.2.2.2.2.2.2.1, ()) (fun r3 =>
 (if r3 then
 (if r2 then
 K (decide (a0.2.2.2.2.1 ≥ 3))
 else
 K false)
 else
 xzone_odd r1.2.2.2.2.2.2.2.2.2.2.2.2 (fun r4 =>
 (if r4 then
 (if r2 then
 K (decide (a0.2.2.2.2.1 ≥ 3))
 else
 K false)
 else
 (if r2 then
 K (decide (a0.2.2.2.2.1 ≥ 2))
 else
 K false)))))))
def Xzone_ends : Tzone_ends := Yzone_ends Xfoot_Parse Xzone_odd
def Jzone_ends (X : Tzone_ends) : Inst := mkI 58 pL19 .nil pL1 .nil X
def Izone_ends : Inst := Jzone_ends Xzone_ends
theorem Ezone_ends (xfoot_Parse : Tfoot_Parse) (xzone_odd : Tzone_odd) : EqF Tryz.prog 32 gives Tryz.f58 [Jfoot_Parse xfoot_Parse, Jzone_odd xzone_odd] [] (Jzone_ends (Yzone_ends xfoot_Parse xzone_odd)) := fun x y K => by kernel_rfl
theorem Izone_ends_ok : InstOk Tryz.prog G.1 Izone_ends := iok (gives := gives) [] (okCons Ifoot_Parse_ok (okCons Izone_odd_ok okNil)) 32 follows Tryz.func58 (by kernel_rfl) (fun x => by kernel_rfl) (Ezone_ends Xfoot_Parse Xzone_odd)
abbrev Tzone_Right : Type := Q15 → (Bool → Prop) → Prop
def Yzone_Right (xblock_Count : Tblock_Count) (xrecord_Right : Trecord_Right) (xrecord_Expiry : Trecord_Expiry) (xzone_all_api_Type_ : Tzone_all_api_Type_) (xzone_all_api_Trans_ : Tzone_all_api_Trans_) (xzone_ends : Tzone_ends) (a0 : Q15) (K : Bool → Prop) : Prop :=
 xblock_Count a0 (fun r1 r2 =>
 (if (!r2) then
 K false
 else
 xrecord_Right a0.2.2.1 (fun r3 =>
 (if (!r3) then
 K false
 else
 xrecord_Expiry a0.2.2.1 (fun r4 r5 =>
 (if r5 then
 (if decide (a0.2.2.2.2.1 < 4) then
 K false
 else
 xzone_all_api_Type_ a0.1 (fun r6 =>
 xzone_all_api_Trans_ a0.2.1 a0.1 a0.2.1 a0.2.2.1 a0.2.2.2.1 a0.2.2.2.2.1 (fun r7 r8 r9 r10 r11 r12 r13 r14 r15 r16 r17 r18 =>
 (if r6 then
 (if r7 then
 xzone_ends (r10, r13, r16, r8, r9, ()) (fun r19 =>
 K r19)
 else
 K false)
 else
 K false))))
 else
 xzone_all_api_Type_ a0.1 (fun r20 =>
 xzone_all_api_Trans_ a0.2.1 a0.1 a0.2.1 a0.2.2.1 a0.2.2.2.1 a0.2.2.2.2.1 (fun r21 r22 r23 r24 r25 r26 r27 r28 r29 r30 r31 r32 =>
 (if r20 then
 (if r21 then
 xzone_ends (r24, r27, r30, r22, r23, ()) (fun r33 =>
 K r33)
 else
 K false)
 else
 K false)))))))))
def Xzone_Right : Tzone_Right := Yzone_Right Xblock_Count Xrecord_Right Xrecord_Expiry Xzone_all_api_Type_ Xzone_all_api_Trans_ Xzone_ends
def Jzone_Right (X : Tzone_Right) : Inst := mkI 19 pL19 .nil pL1 .nil X
def Izone_Right : Inst := Jzone_Right Xzone_Right
theorem Ezone_Right (xblock_Count : Tblock_Count) (xrecord_Right : Trecord_Right) (xrecord_Expiry : Trecord_Expiry) (xzone_all_api_Type_ : Tzone_all_api_Type_) (xzone_all_api_Trans_ : Tzone_all_api_Trans_) (xzone_ends : Tzone_ends) : EqF Tryz.prog 49 gives Tryz.f19 [Jblock_Count xblock_Count, Jrecord_Right xrecord_Right, Jrecord_Expiry xrecord_Expiry, Jzone_all_api_Type_ xzone_all_api_Type_, Jzone_all_api_Trans_ xzone_all_api_Trans_, Jzone_ends xzone_ends] [] (Jzone_Right (Yzone_Right xblock_Count xrecord_Right xrecord_Expiry xzone_all_api_Type_ xzone_all_api_Trans_ xzone_ends)) := fun x y K => by kernel_rfl
theorem Izone_Right_ok : InstOk Tryz.prog G.1 Izone_Right := iok (gives := gives) [] (okCons Iblock_Count_ok (okCons Irecord_Right_ok (okCons Irecord_Expiry_ok (okCons Izone_all_api_Type__ok (okCons Izone_all_api_Trans__ok (okCons Izone_ends_ok okNil)))))) 49 follows Tryz.func19 (by kernel_rfl) (fun x => by kernel_rfl) (Ezone_Right Xblock_Count Xrecord_Right Xrecord_Expiry Xzone_all_api_Type_ Xzone_all_api_Trans_ Xzone_ends)
abbrev Tzone_Index_1 : Type := Int → (List Eng.V) → (List Eng.V) → (List Eng.V) → ByteArray → Int → Int → (Bool → ByteArray → Int → Int → (List Eng.V) → Bool → Bool → (List Eng.V) → Bool → Bool → (List Eng.V) → Bool → Bool → Prop) → Prop
def Yzone_Index_1 (a0 : Int) (a1 : (List Eng.V)) (a2 : (List Eng.V)) (a3 : (List Eng.V)) (a4 : ByteArray) (a5 : Int) (a6 : Int) (K : Bool → ByteArray → Int → Int → (List Eng.V) → Bool → Bool → (List Eng.V) → Bool → Bool → (List Eng.V) → Bool → Bool → Prop) : Prop :=
 (if 0 ≤ a0 ∧ a0 < (↑(List.length a2) : Int) then
 (Eng.asInt IntKind.i64 (Eng.getC a2 (Int.toNat a0) (0 : Nat)) False fun n7 =>
 K (decide (n7 > a6)) a4 a5 a6 a1 false true a2 false true a3 false true)
 else
 False)
def Xzone_Index_1 : Tzone_Index_1 := Yzone_Index_1
def Jzone_Index_1 (X : Tzone_Index_1) : Inst := mkI 117 pL66 pH67 pL1 pH68 X
def Izone_Index_1 : Inst := Jzone_Index_1 Xzone_Index_1
theorem Ezone_Index_1 : EqF Tryz.prog 13 gives Tryz.f117 [] [] (Jzone_Index_1 (Yzone_Index_1)) := fun x y K => by kernel_rfl
theorem Izone_Index_1_ok : InstOk Tryz.prog G.1 Izone_Index_1 := iok (gives := gives) [] okNil 13 follows Tryz.func117 (by kernel_rfl) (fun x => by kernel_rfl) (Ezone_Index_1)
abbrev Tsort_Search : Type := Int → (List Eng.V) → (List Eng.V) → (List Eng.V) → ByteArray → Int → Int → (Int → ByteArray → Int → Int → (List Eng.V) → Bool → Bool → (List Eng.V) → Bool → Bool → (List Eng.V) → Bool → Bool → Prop) → Prop
def Lsort_Search_0 (xzone_Index_1 : Tzone_Index_1) (K : Int → ByteArray → Int → Int → (List Eng.V) → Bool → Bool → (List Eng.V) → Bool → Bool → (List Eng.V) → Bool → Bool → Prop) (a1 : (List Eng.V)) (a2 : (List Eng.V)) (a3 : (List Eng.V)) (a4 : ByteArray) (a5 : Int) (a6 : Int) : (Q69 → Prop) → Q69 → Prop := fun k7 x8 =>
 (if decide (x8.1.2.2.1 < x8.1.2.2.2.1) then
 (lt (Int.fdiv (wu64 (w64 (x8.1.2.2.1 + x8.1.2.2.2.1))) 2) fun v9 =>
 xzone_Index_1 (w64 v9) x8.2.1.1 x8.2.1.2.1 x8.2.1.2.2.1 x8.2.1.2.2.2.1 x8.2.1.2.2.2.2.1 x8.2.2.1.1 (fun r10 r11 r12 r13 r14 r15 r16 r17 r18 r19 r20 r21 r22 =>
 (if (!r10) then
 k7 ((((), (), (), ()), x8.1.2.1, w64 (w64 v9 + 1), x8.1.2.2.2), (r14, r17, r20, r11, r12, ()), (r13, ()), ())
 else
 k7 ((((), (), (), ()), x8.1.2.1, x8.1.2.2.1, w64 v9, ()), (r14, r17, r20, r11, r12, ()), (r13, ()), ()))))
 else
 K x8.1.2.2.1 x8.2.1.2.2.2.1 x8.2.1.2.2.2.2.1 x8.2.2.1.1 x8.2.1.1 false true x8.2.1.2.1 false true x8.2.1.2.2.1 false true)
def Lsort_Search_0p : Lp := ⟨114, [.trim 114, .thin 384, .trim 114, .thin 385, .trim 114, .thin 386, .trim 114], pT70, pH67, 0⟩
def Ysort_Search (xzone_Index_1 : Tzone_Index_1) (a0 : Int) (a1 : (List Eng.V)) (a2 : (List Eng.V)) (a3 : (List Eng.V)) (a4 : ByteArray) (a5 : Int) (a6 : Int) (K : Int → ByteArray → Int → Int → (List Eng.V) → Bool → Bool → (List Eng.V) → Bool → Bool → (List Eng.V) → Bool → Bool → Prop) : Prop :=
 lp (Lsort_Search_0 xzone_Index_1 K a1 a2 a3 a4 a5 a6) ((((), (), (), ()), 0, 0, a0, ()), (a1, a2, a3, a4, a5, ()), (a6, ()), ())
def Xsort_Search : Tsort_Search := Ysort_Search Xzone_Index_1
def Jsort_Search (X : Tsort_Search) : Inst := mkI 116 pL71 pH67 pL6 pH68 X
def Isort_Search : Inst := Jsort_Search Xsort_Search
theorem Esort_Search (xzone_Index_1 : Tzone_Index_1) : EqF Tryz.prog 26 gives Tryz.f116 [Jzone_Index_1 xzone_Index_1] [Lsort_Search_0p] (Jsort_Search (Ysort_Search xzone_Index_1)) := fun x y K => by kernel_rfl
theorem Isort_Search_ok : InstOk Tryz.prog G.1 Isort_Search := iok (gives := gives) [Lsort_Search_0p] (okCons Izone_Index_1_ok okNil) 26 follows Tryz.func116 (by kernel_rfl) (fun x => by kernel_rfl) (Esort_Search Xzone_Index_1)
abbrev Tzone_Index : Type := Q15 → Int → (Int → Prop) → Prop
def Yzone_Index (xsort_Search : Tsort_Search) (a0 : Q15) (a1 : Int) (K : Int → Prop) : Prop :=
 xsort_Search (↑(List.length a0.2.1) : Int) a0.1 a0.2.1 a0.2.2.1 a0.2.2.2.1 a0.2.2.2.2.1 a1 (fun r2 r3 r4 r5 r6 r7 r8 r9 r10 r11 r12 r13 r14 =>
 K (w64 (r2 - 1)))
def Xzone_Index : Tzone_Index := Yzone_Index Xsort_Search
def Jzone_Index (X : Tzone_Index) : Inst := mkI 49 pL72 .nil pL6 .nil X
def Izone_Index : Inst := Jzone_Index Xzone_Index
theorem Ezone_Index (xsort_Search : Tsort_Search) : EqF Tryz.prog 11 gives Tryz.f49 [Jsort_Search xsort_Search] [] (Jzone_Index (Yzone_Index xsort_Search)) := fun x y K => by kernel_rfl
theorem Izone_Index_ok : InstOk Tryz.prog G.1 Izone_Index := iok (gives := gives) [] (okCons Isort_Search_ok okNil) 11 follows Tryz.func49 (by kernel_rfl) (fun x => by kernel_rfl) (Ezone_Index Xsort_Search)
abbrev Trecord_Sum_1_1 : Type := Int → (List Eng.V) → Int → (Bool → Int → (List Eng.V) → Bool → Bool → Prop) → Prop
def Yrecord_Sum_1_1 (a0 : Int) (a1 : (List Eng.V)) (a2 : Int) (K : Bool → Int → (List Eng.V) → Bool → Bool → Prop) : Prop :=
 (if 0 ≤ a0 ∧ a0 < (↑(List.length a1) : Int) then
 (Eng.asInt IntKind.i64 (Eng.getC a1 (Int.toNat a0) (0 : Nat)) False fun n3 =>
 K (decide (n3 > a2)) a2 a1 false true)
 else
 False)
def Xrecord_Sum_1_1 : Trecord_Sum_1_1 := Yrecord_Sum_1_1
def Jrecord_Sum_1_1 (X : Trecord_Sum_1_1) : Inst := mkI 180 pL66 pH74 pL1 pH73 X
def Irecord_Sum_1_1 : Inst := Jrecord_Sum_1_1 Xrecord_Sum_1_1
theorem Erecord_Sum_1_1 : EqF Tryz.prog 12 gives Tryz.f180 [] [] (Jrecord_Sum_1_1 (Yrecord_Sum_1_1)) := fun x y K => by kernel_rfl
theorem Irecord_Sum_1_1_ok : InstOk Tryz.prog G.1 Irecord_Sum_1_1 := iok (gives := gives) [] okNil 12 follows Tryz.func180 (by kernel_rfl) (fun x => by kernel_rfl) (Erecord_Sum_1_1)
abbrev Tsort_Search_1 : Type := Int → Int → (List Eng.V) → Bool → Bool → (Int → Int → (List Eng.V) → Bool → Bool → Prop) → Prop
def Lsort_Search_1_0 (xrecord_Sum_1_1 : Trecord_Sum_1_1) (K : Int → Int → (List Eng.V) → Bool → Bool → Prop) (a1 : Int) (a2 : (List Eng.V)) (a3 : Bool) (a4 : Bool) : (Q75 → Prop) → Q75 → Prop := fun k5 x6 =>
 (if decide (x6.1.2.2.1 < x6.1.2.2.2.1) then
 (lt (Int.fdiv (wu64 (w64 (x6.1.2.2.1 + x6.1.2.2.2.1))) 2) fun v7 =>
 xrecord_Sum_1_1 (w64 v7) x6.2.1.1 x6.2.2.1.1 (fun r8 r9 r10 r11 r12 =>
 (if (!r8) then
 k5 ((((), (), (), ()), x6.1.2.1, w64 (w64 v7 + 1), x6.1.2.2.2), (r10, ()), (r9, ()), (x6.2.2.2.1.1, x6.2.2.2.1.2.1, true), ())
 else
 k5 ((((), (), (), ()), x6.1.2.1, x6.1.2.2.1, w64 v7, ()), (r10, ()), (r9, ()), (x6.2.2.2.1.1, x6.2.2.2.1.2.1, true), ()))))
 else
 K x6.1.2.2.1 x6.2.2.1.1 x6.2.1.1 false true)
def Lsort_Search_1_0p : Lp := ⟨114, [.trim 114, .thin 2, .trim 114, .thin 384, .trim 114], pT76, pH77, 0⟩
def Ysort_Search_1 (xrecord_Sum_1_1 : Trecord_Sum_1_1) (a0 : Int) (a1 : Int) (a2 : (List Eng.V)) (a3 : Bool) (a4 : Bool) (K : Int → Int → (List Eng.V) → Bool → Bool → Prop) : Prop :=
 lp (Lsort_Search_1_0 xrecord_Sum_1_1 K a1 a2 a3 a4) ((((), (), (), ()), 0, 0, a0, ()), (a2, ()), (a1, ()), (a2, a3, true), ())
def Xsort_Search_1 : Tsort_Search_1 := Ysort_Search_1 Xrecord_Sum_1_1
def Jsort_Search_1 (X : Tsort_Search_1) : Inst := mkI 116 pL78 pH73 pL6 pH73 X
def Isort_Search_1 : Inst := Jsort_Search_1 Xsort_Search_1
theorem Esort_Search_1 (xrecord_Sum_1_1 : Trecord_Sum_1_1) : EqF Tryz.prog 26 gives Tryz.f116 [Jrecord_Sum_1_1 xrecord_Sum_1_1] [Lsort_Search_1_0p] (Jsort_Search_1 (Ysort_Search_1 xrecord_Sum_1_1)) := fun x y K => by kernel_rfl
theorem Isort_Search_1_ok : InstOk Tryz.prog G.1 Isort_Search_1 := iok (gives := gives) [Lsort_Search_1_0p] (okCons Irecord_Sum_1_1_ok okNil) 26 follows Tryz.func116 (by kernel_rfl) (fun x => by kernel_rfl) (Esort_Search_1 Xrecord_Sum_1_1)
abbrev Trecord_Sum : Type := (List Eng.V) → Int → (Int → Prop) → Prop
def Yrecord_Sum (xrecord_leaps : Trecord_leaps) (xsort_Search_1 : Tsort_Search_1) (a0 : (List Eng.V)) (a1 : Int) (K : Int → Prop) : Prop :=
 xrecord_leaps a0 (fun r2 r3 r4 =>
 xsort_Search_1 (↑(List.length r2) : Int) a1 r2 r3 r4 (fun r5 r6 r7 r8 r9 =>
 (if (r5 == 0) then
 K 0
 else
 (if 0 ≤ w64 (r5 - 1) ∧ w64 (r5 - 1) < (↑(List.length r7) : Int) then
 (Eng.asInt IntKind.i64 (Eng.getC r7 (Int.toNat (w64 (r5 - 1))) (1 : Nat)) False fun n10 =>
 K n10)
 else
 False))))
def Xrecord_Sum : Trecord_Sum := Yrecord_Sum Xrecord_leaps Xsort_Search_1
def Jrecord_Sum (X : Trecord_Sum) : Inst := mkI 120 pL79 .nil pL6 .nil X
def Irecord_Sum : Inst := Jrecord_Sum Xrecord_Sum
theorem Erecord_Sum (xrecord_leaps : Trecord_leaps) (xsort_Search_1 : Tsort_Search_1) : EqF Tryz.prog 20 gives Tryz.f120 [Jrecord_leaps xrecord_leaps, Jsort_Search_1 xsort_Search_1] [] (Jrecord_Sum (Yrecord_Sum xrecord_leaps xsort_Search_1)) := fun x y K => by kernel_rfl
theorem Irecord_Sum_ok : InstOk Tryz.prog G.1 Irecord_Sum := iok (gives := gives) [] (okCons Irecord_leaps_ok (okCons Isort_Search_1_ok okNil)) 20 follows Tryz.func120 (by kernel_rfl) (fun x => by kernel_rfl) (Erecord_Sum Xrecord_leaps Xsort_Search_1)
abbrev Tzone_Posix : Type := Q15 → Int → (Int → Prop) → Prop
def Yzone_Posix (xrecord_Sum : Trecord_Sum) (a0 : Q15) (a1 : Int) (K : Int → Prop) : Prop :=
 xrecord_Sum a0.2.2.1 a1 (fun r2 =>
 K (w64 (a1 - r2)))
def Xzone_Posix : Tzone_Posix := Yzone_Posix Xrecord_Sum
def Jzone_Posix (X : Tzone_Posix) : Inst := mkI 51 pL72 .nil pL6 .nil X
def Izone_Posix : Inst := Jzone_Posix Xzone_Posix
theorem Ezone_Posix (xrecord_Sum : Trecord_Sum) : EqF Tryz.prog 11 gives Tryz.f51 [Jrecord_Sum xrecord_Sum] [] (Jzone_Posix (Yzone_Posix xrecord_Sum)) := fun x y K => by kernel_rfl
theorem Izone_Posix_ok : InstOk Tryz.prog G.1 Izone_Posix := iok (gives := gives) [] (okCons Irecord_Sum_ok okNil) 11 follows Tryz.func51 (by kernel_rfl) (fun x => by kernel_rfl) (Ezone_Posix Xrecord_Sum)
abbrev Tnum_Add : Type := Int → Int → (Int → Bool → Prop) → Prop
def Ynum_Add (a0 : Int) (a1 : Int) (K : Int → Bool → Prop) : Prop :=
 (lt (!decide (w64 (a0 + a1) > a0) == decide (a1 > 0)) fun v2 =>
 (if v2 then
 (if (a1 != 0) then
 K 0 false
 else
 K (w64 (a0 + a1)) true)
 else
 K (w64 (a0 + a1)) true))
def Xnum_Add : Tnum_Add := Ynum_Add
def Jnum_Add (X : Tnum_Add) : Inst := mkI 130 pL24 .nil pL25 .nil X
def Inum_Add : Inst := Jnum_Add Xnum_Add
theorem Enum_Add : EqF Tryz.prog 21 gives Tryz.f130 [] [] (Jnum_Add (Ynum_Add)) := fun x y K => by kernel_rfl
theorem Inum_Add_ok : InstOk Tryz.prog G.1 Inum_Add := iok (gives := gives) [] okNil 21 follows Tryz.func130 (by kernel_rfl) (fun x => by kernel_rfl) (Enum_Add)
abbrev Tnum_Div : Type := Int → Int → (Int → Int → Bool → Prop) → Prop
def Ynum_Div (a0 : Int) (a1 : Int) (K : Int → Int → Bool → Prop) : Prop :=
 (if decide (a1 < 1) then
 K 0 0 false
 else
 (if a1 = 0 then
 False
 else
 (if a1 = 0 then
 False
 else
 (if decide (Int.tmod a0 a1 < 0) then
 (lt (w64 (w64 (Int.tdiv a0 a1) - 1)) fun v2 =>
 K v2 (w64 (Int.tmod a0 a1 + a1)) true)
 else
 K (w64 (Int.tdiv a0 a1)) (Int.tmod a0 a1) true))))
def Xnum_Div : Tnum_Div := Ynum_Div
def Jnum_Div (X : Tnum_Div) : Inst := mkI 133 pL24 .nil pL80 .nil X
def Inum_Div : Inst := Jnum_Div Xnum_Div
theorem Enum_Div : EqF Tryz.prog 24 gives Tryz.f133 [] [] (Jnum_Div (Ynum_Div)) := fun x y K => by kernel_rfl
theorem Inum_Div_ok : InstOk Tryz.prog G.1 Inum_Div := iok (gives := gives) [] okNil 24 follows Tryz.func133 (by kernel_rfl) (fun x => by kernel_rfl) (Enum_Div)
abbrev Tday_Date : Type := Int → (Int → Int → Int → Bool → Prop) → Prop
def Yday_Date (xnum_Div : Tnum_Div) (a0 : Int) (K : Int → Int → Int → Bool → Prop) : Prop :=
 (if decide (a0 < (-719162)) then
 K 0 0 0 false
 else
 (if decide (a0 > 2932896) then
 K 0 0 0 false
 else
 xnum_Div (w64 (a0 + 719468)) 146097 (fun r1 r2 r3 =>
 (lt (w64 (r2 - w64 (Int.tdiv r2 1460))) fun v4 =>
 (lt (w64 (v4 + w64 (Int.tdiv r2 36524))) fun v5 =>
 (lt (w64 (v5 - w64 (Int.tdiv r2 146096))) fun v6 =>
 (lt (w64 (365 * w64 (Int.tdiv v6 365))) fun v7 =>
 (lt (w64 (Int.tdiv (w64 (Int.tdiv v6 365)) 4)) fun v8 =>
 (lt (w64 (Int.tdiv (w64 (Int.tdiv v6 365)) 100)) fun v9 =>
 (lt (w64 (w64 (v7 + v8) - v9)) fun v10 =>
 (lt (w64 (5 * w64 (r2 - v10))) fun v11 =>
 (lt (w64 (Int.tdiv (w64 (v11 + 2)) 153)) fun v12 =>
 (lt (w64 (w64 (153 * v12) + 2)) fun v13 =>
 (lt (w64 (w64 (r2 - v10) - w64 (Int.tdiv v13 5))) fun v14 =>
 (if decide (w64 (v12 + 3) > 12) then
 (lt (w64 (w64 (v12 + 3) - 12)) fun v15 =>
 (lt (w64 (w64 (Int.tdiv v6 365) + 1)) fun v16 =>
 (lt (w64 (w64 (400 * r1) + v16)) fun v17 =>
 K v17 v15 (w64 (v14 + 1)) true)))
 else
 (lt (w64 (w64 (400 * r1) + w64 (Int.tdiv v6 365))) fun v18 =>
 K v18 (w64 (v12 + 3)) (w64 (v14 + 1)) true))))))))))))))))
def Xday_Date : Tday_Date := Yday_Date Xnum_Div
def Jday_Date (X : Tday_Date) : Inst := mkI 75 pL6 .nil pL81 .nil X
def Iday_Date : Inst := Jday_Date Xday_Date
theorem Eday_Date (xnum_Div : Tnum_Div) : EqF Tryz.prog 69 gives Tryz.f75 [Jnum_Div xnum_Div] [] (Jday_Date (Yday_Date xnum_Div)) := fun x y K => by kernel_rfl
theorem Iday_Date_ok : InstOk Tryz.prog G.1 Iday_Date := iok (gives := gives) [] (okCons Inum_Div_ok okNil) 69 follows Tryz.func75 (by kernel_rfl) (fun x => by kernel_rfl) (Eday_Date Xnum_Div)
abbrev Tfoot_year : Type := Int → (Int → Bool → Prop) → Prop
def Yfoot_year (xnum_Div : Tnum_Div) (xday_Date : Tday_Date) (a0 : Int) (K : Int → Bool → Prop) : Prop :=
 xnum_Div a0 86400 (fun r1 r2 r3 =>
 xday_Date r1 (fun r4 r5 r6 r7 =>
 K r4 r7))
def Xfoot_year : Tfoot_year := Yfoot_year Xnum_Div Xday_Date
def Jfoot_year (X : Tfoot_year) : Inst := mkI 178 pL6 .nil pL25 .nil X
def Ifoot_year : Inst := Jfoot_year Xfoot_year
theorem Efoot_year (xnum_Div : Tnum_Div) (xday_Date : Tday_Date) : EqF Tryz.prog 26 gives Tryz.f178 [Jnum_Div xnum_Div, Jday_Date xday_Date] [] (Jfoot_year (Yfoot_year xnum_Div xday_Date)) := fun x y K => by kernel_rfl
theorem Ifoot_year_ok : InstOk Tryz.prog G.1 Ifoot_year := iok (gives := gives) [] (okCons Inum_Div_ok (okCons Iday_Date_ok okNil)) 26 follows Tryz.func178 (by kernel_rfl) (fun x => by kernel_rfl) (Efoot_year Xnum_Div Xday_Date)
abbrev Tday_Leap : Type := Int → (Bool → Prop) → Prop
def Yday_Leap (a0 : Int) (K : Bool → Prop) : Prop :=
 (if (Int.tmod a0 (4 :Int) == 0) then
 (if (Int.tmod a0 (100 :Int) != 0) then
 K true
 else
 K (Int.tmod a0 (400 :Int) == 0))
 else
 K false)
def Xday_Leap : Tday_Leap := Yday_Leap
def Jday_Leap (X : Tday_Leap) : Inst := mkI 190 pL6 .nil pL1 .nil X
def Iday_Leap : Inst := Jday_Leap Xday_Leap
theorem Eday_Leap : EqF Tryz.prog 16 gives Tryz.f190 [] [] (Jday_Leap (Yday_Leap)) := fun x y K => by kernel_rfl
theorem Iday_Leap_ok : InstOk Tryz.prog G.1 Iday_Leap := iok (gives := gives) [] okNil 16 follows Tryz.func190 (by kernel_rfl) (fun x => by kernel_rfl) (Eday_Leap)
abbrev Tday_Last : Type := Int → Int → (Int → Bool → Prop) → Prop
def Yday_Last (xday_Leap : Tday_Leap) (a0 : Int) (a1 : Int) (K : Int → Bool → Prop) : Prop :=
 (if decide (a0 < 1) then
 K 0 false
 else
 (if decide (a0 > 9999) then
 K 0 false
 else
 (if decide (a1 < 1) then
 K 0 false
 else
 (if decide (a1 > 12) then
 K 0 false
 else
 (if 0 ≤ w64 (a1 - 1) ∧ w64 (a1 - 1) < 12 then
 (Eng.asInt IntKind.i64 ([Eng.V.c (Value.int IntKind.i64 31), Eng.V.c (Value.int IntKind.i64 28), Eng.V.c (Value.int IntKind.i64 31), Eng.V.c (Value.int IntKind.i64 30), Eng.V.c (Value.int IntKind.i64 31), Eng.V.c (Value.int IntKind.i64 30), Eng.V.c (Value.int IntKind.i64 31), Eng.V.c (Value.int IntKind.i64 31), Eng.V.c (Value.int IntKind.i64 30), Eng.V.c (Value.int IntKind.i64 31), Eng.V.c (Value.int IntKind.i64 30), Eng.V.c (Value.int IntKind.i64 31)][Int.toNat (w64 (a1 - 1)) * (1 : Nat)]?) False fun n2 =>
 (if (a1 == 2) then
 xday_Leap a0 (fun r3 =>
 (if r3 then
 K (w64 (n2 + 1)) true
 else
 K n2 true))
 else
 K n2 true))
 else
 False)))))
def Xday_Last : Tday_Last := Yday_Last Xday_Leap
def Jday_Last (X : Tday_Last) : Inst := mkI 151 pL24 .nil pL25 .nil X
def Iday_Last : Inst := Jday_Last Xday_Last
theorem Eday_Last (xday_Leap : Tday_Leap) : EqF Tryz.prog 34 gives Tryz.f151 [Jday_Leap xday_Leap] [] (Jday_Last (Yday_Last xday_Leap)) := fun x y K => by kernel_rfl
theorem Iday_Last_ok : InstOk Tryz.prog G.1 Iday_Last := iok (gives := gives) [] (okCons Iday_Leap_ok okNil) 34 follows Tryz.func151 (by kernel_rfl) (fun x => by kernel_rfl) (Eday_Last Xday_Leap)
abbrev Tday_Number : Type := Int → Int → Int → (Int → Bool → Prop) → Prop
def Yday_Number (xday_Last : Tday_Last) (xnum_Div : Tnum_Div) (a0 : Int) (a1 : Int) (a2 : Int) (K : Int → Bool → Prop) : Prop :=
 xday_Last a0 a1 (fun r3 r4 =>
 (if (!r4) then
 K 0 false
 else
 (if decide (a2 < 1) then
 K 0 false
 else
 (if decide (a2 > r3) then
 K 0 false
 else
 (if decide (a1 < 3) then
 xnum_Div (w64 (a0 - 1)) 400 (fun r5 r6 r7 =>
 (lt (w64 (w64 (a1 + 12) - 3)) fun v8 =>
 (lt (w64 (w64 (153 * v8) + 2)) fun v9 =>
 (lt (w64 (w64 (Int.tdiv v9 5) + a2)) fun v10 =>
 (lt (w64 (w64 (146097 * r5) + w64 (365 * r6))) fun v11 =>
 (lt (w64 (v11 + w64 (Int.tdiv r6 4))) fun v12 =>
 (lt (w64 (v12 - w64 (Int.tdiv r6 100))) fun v13 =>
 (lt (w64 (v13 + w64 (v10 - 1))) fun v14 =>
 K (w64 (v14 - 719468)) true))))))))
 else
 xnum_Div a0 400 (fun r15 r16 r17 =>
 (lt (w64 (153 * w64 (a1 - 3))) fun v18 =>
 (lt (w64 (Int.tdiv (w64 (v18 + 2)) 5)) fun v19 =>
 (lt (w64 (w64 (v19 + a2) - 1)) fun v20 =>
 (lt (w64 (w64 (146097 * r15) + w64 (365 * r16))) fun v21 =>
 (lt (w64 (v21 + w64 (Int.tdiv r16 4))) fun v22 =>
 (lt (w64 (v22 - w64 (Int.tdiv r16 100))) fun v23 =>
 (lt (w64 (w64 (v23 + v20) - 719468)) fun v24 =>
 K v24 true)))))))))))))
def Xday_Number : Tday_Number := Yday_Number Xday_Last Xnum_Div
def Jday_Number (X : Tday_Number) : Inst := mkI 92 pL20 .nil pL25 .nil X
def Iday_Number : Inst := Jday_Number Xday_Number
theorem Eday_Number (xday_Last : Tday_Last) (xnum_Div : Tnum_Div) : EqF Tryz.prog 65 gives Tryz.f92 [Jday_Last xday_Last, Jnum_Div xnum_Div] [] (Jday_Number (Yday_Number xday_Last xnum_Div)) := fun x y K => by kernel_rfl
theorem Iday_Number_ok : InstOk Tryz.prog G.1 Iday_Number := iok (gives := gives) [] (okCons Iday_Last_ok (okCons Inum_Div_ok okNil)) 65 follows Tryz.func92 (by kernel_rfl) (fun x => by kernel_rfl) (Eday_Number Xday_Last Xnum_Div)
abbrev Tday_Week : Type := Int → (Int → Prop) → Prop
def Yday_Week (xnum_Div : Tnum_Div) (a0 : Int) (K : Int → Prop) : Prop :=
 xnum_Div (w64 (Int.tmod a0 (7 :Int) + 4)) 7 (fun r1 r2 r3 =>
 K r2)
def Xday_Week : Tday_Week := Yday_Week Xnum_Div
def Jday_Week (X : Tday_Week) : Inst := mkI 255 pL6 .nil pL6 .nil X
def Iday_Week : Inst := Jday_Week Xday_Week
theorem Eday_Week (xnum_Div : Tnum_Div) : EqF Tryz.prog 15 gives Tryz.f255 [Jnum_Div xnum_Div] [] (Jday_Week (Yday_Week xnum_Div)) := fun x y K => by kernel_rfl
theorem Iday_Week_ok : InstOk Tryz.prog G.1 Iday_Week := iok (gives := gives) [] (okCons Inum_Div_ok okNil) 15 follows Tryz.func255 (by kernel_rfl) (fun x => by kernel_rfl) (Eday_Week Xnum_Div)
abbrev Trule_Day : Type := Q45 → Int → (Int → Bool → Prop) → Prop
def Yrule_Day (xday_Number : Tday_Number) (xrule_Right : Trule_Right) (xday_Leap : Tday_Leap) (xday_Last : Tday_Last) (xday_Week : Tday_Week) (a0 : Q45) (a1 : Int) (K : Int → Bool → Prop) : Prop :=
 xday_Number a1 1 1 (fun r2 r3 =>
 (if (!r3) then
 K 0 false
 else
 xrule_Right a0 (fun r4 =>
 (if (!r4) then
 K 0 false
 else
 (if (a0.1 == 2) then
 K (w64 (r2 + a0.2.1)) true
 else
 (if (a0.1 == 1) then
 (if decide (a0.2.1 ≤ 59) then
 (lt (w64 (w64 (r2 - 1) + a0.2.1)) fun v5 =>
 K v5 true)
 else
 xday_Leap a1 (fun r6 =>
 (if (!r6) then
 (lt (w64 (w64 (r2 - 1) + a0.2.1)) fun v7 =>
 K v7 true)
 else
 K (w64 (r2 + a0.2.1)) true)))
 else
 xday_Number a1 a0.2.1 1 (fun r8 r9 =>
 xday_Last a1 a0.2.1 (fun r10 r11 =>
 (lt (w64 (7 * w64 (a0.2.2.1 - 1))) fun v12 =>
 xday_Week r8 (fun r13 =>
 (lt (w64 (w64 (a0.2.2.2.1 - r13) + 7)) fun v14 =>
 (lt (decide (w64 (Int.tmod v14 7 + v12) ≥ r10)) fun v15 =>
 (if v15 then
 (lt (w64 (w64 (Int.tmod v14 7 + v12) - 7)) fun v16 =>
 K (w64 (r8 + v16)) true)
 else
 (lt (w64 (r8 + w64 (Int.tmod v14 7 + v12))) fun v17 =>
 K v17 true))))))))))))))
def Xrule_Day : Trule_Day := Yrule_Day Xday_Number Xrule_Right Xday_Leap Xday_Last Xday_Week
def Jrule_Day (X : Trule_Day) : Inst := mkI 239 pL82 .nil pL25 .nil X
def Irule_Day : Inst := Jrule_Day Xrule_Day
theorem Erule_Day (xday_Number : Tday_Number) (xrule_Right : Trule_Right) (xday_Leap : Tday_Leap) (xday_Last : Tday_Last) (xday_Week : Tday_Week) : EqF Tryz.prog 83 gives Tryz.f239 [Jday_Number xday_Number, Jrule_Right xrule_Right, Jday_Leap xday_Leap, Jday_Last xday_Last, Jday_Week xday_Week] [] (Jrule_Day (Yrule_Day xday_Number xrule_Right xday_Leap xday_Last xday_Week)) := fun x y K => by kernel_rfl
theorem Irule_Day_ok : InstOk Tryz.prog G.1 Irule_Day := iok (gives := gives) [] (okCons Iday_Number_ok (okCons Irule_Right_ok (okCons Iday_Leap_ok (okCons Iday_Last_ok (okCons Iday_Week_ok okNil))))) 83 follows Tryz.func239 (by kernel_rfl) (fun x => by kernel_rfl) (Erule_Day Xday_Number Xrule_Right Xday_Leap Xday_Last Xday_Week)
abbrev Trule_At : Type := Q45 → Int → (Int → Bool → Prop) → Prop
def Yrule_At (xrule_Day : Trule_Day) (a0 : Q45) (a1 : Int) (K : Int → Bool → Prop) : Prop :=
 xrule_Day a0 a1 (fun r2 r3 =>
 (if (!r3) then
 K 0 false
 else
 (lt (w64 (w64 (r2 * 86400) + a0.2.2.2.2.1)) fun v4 =>
 K v4 true)))
def Xrule_At : Trule_At := Yrule_At Xrule_Day
def Jrule_At (X : Trule_At) : Inst := mkI 214 pL82 .nil pL25 .nil X
def Irule_At : Inst := Jrule_At Xrule_At
theorem Erule_At (xrule_Day : Trule_Day) : EqF Tryz.prog 21 gives Tryz.f214 [Jrule_Day xrule_Day] [] (Jrule_At (Yrule_At xrule_Day)) := fun x y K => by kernel_rfl
theorem Irule_At_ok : InstOk Tryz.prog G.1 Irule_At := iok (gives := gives) [] (okCons Irule_Day_ok okNil) 21 follows Tryz.func214 (by kernel_rfl) (fun x => by kernel_rfl) (Erule_At Xrule_Day)
abbrev Tfoot_Span : Type := Q47 → Int → (Int → Int → Bool → Prop) → Prop
def Yfoot_Span (xfoot_Right : Tfoot_Right) (xrule_At : Trule_At) (a0 : Q47) (a1 : Int) (K : Int → Int → Bool → Prop) : Prop :=
 (if (!a0.2.2.2.2.2.2.1) then
 K 0 0 false
 else
 xfoot_Right a0 (fun r2 =>
 (if (!r2) then
 K 0 0 false
 else
 xrule_At (a0.2.2.2.2.2.2.2.1, a0.2.2.2.2.2.2.2.2.1, a0.2.2.2.2.2.2.2.2.2.1, a0.2.2.2.2.2.2.2.2.2.2.1, a0.2.2.2.2.2.2.2.2.2.2.2.1, ()) a1 (fun r3 r4 =>
 (if (!r4) then
 K 0 0 false
 else
 xrule_At a0.2.2.2.2.2.2.2.2.2.2.2.2 a1 (fun r5 r6 =>
 K (w64 (r3 - a0.1)) (w64 (r5 - a0.2.2.2.1)) true))))))
def Xfoot_Span : Tfoot_Span := Yfoot_Span Xfoot_Right Xrule_At
def Jfoot_Span (X : Tfoot_Span) : Inst := mkI 179 pL83 .nil pL80 .nil X
def Ifoot_Span : Inst := Jfoot_Span Xfoot_Span
theorem Efoot_Span (xfoot_Right : Tfoot_Right) (xrule_At : Trule_At) : EqF Tryz.prog 41 gives Tryz.f179 [Jfoot_Right xfoot_Right, Jrule_At xrule_At] [] (Jfoot_Span (Yfoot_Span xfoot_Right xrule_At)) := fun x y K => by kernel_rfl
theorem Ifoot_Span_ok : InstOk Tryz.prog G.1 Ifoot_Span := iok (gives := gives) [] (okCons Ifoot_Right_ok (okCons Irule_At_ok okNil)) 41 follows Tryz.func179 (by kernel_rfl) (fun x => by kernel_rfl) (Efoot_Span Xfoot_Right Xrule_At)
end Go.Proofs.YtbnpclndiichcaaGreatDoor
end
section
set_option linter.unusedVariables false
set_option linter.unusedSimpArgs false
namespace Go.Proofs.YtbnpclndiichcaaGreatDoor
open Go Go.Proofs.YtbnpclndiichcaaGreatDoor.Eng
set_option linter.unusedVariables false
set_option maxRecDepth 100000
set_option maxHeartbeats 4000000
variable {G : Gs}
abbrev Tfoot_Lookup : Type := Q47 → Int → (Q32 → Prop) → Prop
def Yfoot_Lookup (xnum_Add : Tnum_Add) (xfoot_year : Tfoot_year) (xfoot_Span : Tfoot_Span) (a0 : Q47) (a1 : Int) (K : Q32 → Prop) : Prop :=
 xnum_Add a1 a0.1 (fun r2 r3 =>
 xfoot_year r2 (fun r4 r5 =>
 xfoot_Span a0 r4 (fun r6 r7 r8 =>
 (if (!r3) then
 K (a0.1, a0.2.1, a0.2.2.1, ())
 else
 (if (!r5) then
 K (a0.1, a0.2.1, a0.2.2.1, ())
 else
 (if (!r8) then
 K (a0.1, a0.2.1, a0.2.2.1, ())
 else
 (if decide (a1 ≥ r6) then
 (if decide (a1 < r7) then
 K (a0.2.2.2.1, a0.2.2.2.2.1, a0.2.2.2.2.2.1, ())
 else
 (if decide (r6 ≥ r7) then
 (if decide (a1 ≥ r6) then
 K (a0.2.2.2.1, a0.2.2.2.2.1, a0.2.2.2.2.2.1, ())
 else
 (if decide (a1 < r7) then
 K (a0.2.2.2.1, a0.2.2.2.2.1, a0.2.2.2.2.2.1, ())
 else
 K (a0.1, a0.2.1, a0.2.2.1, ())))
 else
 K (a0.1, a0.2.1, a0.2.2.1, ())))
 else
 (if decide (r6 ≥ r7) then
 (if decide (a1 ≥ r6) then
 K (a0.2.2.2.1, a0.2.2.2.2.1, a0.2.2.2.2.2.1, ())
 else
 (if decide (a1 < r7) then
 K (a0.2.2.2.1, a0.2.2.2.2.1, a0.2.2.2.2.2.1, ())
 else
 K (a0.1, a0.2.1, a0.2.2.1, ())))
 else
 K (a0.1, a0.2.1, a0.2.2.1, ())))))))))
def Xfoot_Lookup : Tfoot_Lookup := Yfoot_Lookup Xnum_Add Xfoot_year Xfoot_Span
def Jfoot_Lookup (X : Tfoot_Lookup) : Inst := mkI 119 pL83 .nil pL84 .nil X
def Ifoot_Lookup : Inst := Jfoot_Lookup Xfoot_Lookup
theorem Efoot_Lookup (xnum_Add : Tnum_Add) (xfoot_year : Tfoot_year) (xfoot_Span : Tfoot_Span) : EqF Tryz.prog 71 gives Tryz.f119 [Jnum_Add xnum_Add, Jfoot_year xfoot_year, Jfoot_Span xfoot_Span] [] (Jfoot_Lookup (Yfoot_Lookup xnum_Add xfoot_year xfoot_Span)) := fun x y K => by kernel_rfl
theorem Ifoot_Lookup_ok : InstOk Tryz.prog G.1 Ifoot_Lookup := iok (gives := gives) [] (okCons Inum_Add_ok (okCons Ifoot_year_ok (okCons Ifoot_Span_ok okNil))) 71 follows Tryz.func119 (by kernel_rfl) (fun x => by kernel_rfl) (Efoot_Lookup Xnum_Add Xfoot_year Xfoot_Span)
abbrev Tzone_Lookup : Type := Q15 → Int → (Q32 → Prop) → Prop
def Yzone_Lookup (xzone_Index : Tzone_Index) (xfoot_Parse : Tfoot_Parse) (xzone_Posix : Tzone_Posix) (xfoot_Lookup : Tfoot_Lookup) (a0 : Q15) (a1 : Int) (K : Q32 → Prop) : Prop :=
 xzone_Index a0 a1 (fun r2 =>
 (if (!ByteArray.toList a0.2.2.2.1 == ByteArray.toList (ByteArray.mk #[])) then
 (if (w64 (r2 + 1) == (↑(List.length a0.2.1) : Int)) then
 xfoot_Parse a0.2.2.2.1 (fun r3 r4 =>
 xzone_Posix a0 a1 (fun r5 =>
 xfoot_Lookup r3 r5 (fun r6 =>
 K r6)))
 else
 (if decide (r2 < 0) then
 (if (0 :Int) ≤ 0 ∧ 0 < (↑(List.length a0.1) : Int) then
 (Eng.asInt IntKind.i64 (Eng.getC a0.1 (0 : Nat) (0 : Nat)) False fun n7 =>
 (Eng.asBool (Eng.getC a0.1 (0 : Nat) (1 : Nat)) False fun b8 =>
 (Eng.asStr (Eng.getC a0.1 (0 : Nat) (2 : Nat)) False fun t9 =>
 K (n7, b8, t9, ()))))
 else
 False)
 else
 (if 0 ≤ r2 ∧ r2 < (↑(List.length a0.2.1) : Int) then
 (Eng.asInt IntKind.i64 (Eng.getC a0.2.1 (Int.toNat r2) (1 : Nat)) False fun n10 =>
 (if 0 ≤ n10 ∧ n10 < (↑(List.length a0.1) : Int) then
 (Eng.asInt IntKind.i64 (Eng.getC a0.1 (Int.toNat n10) (0 : Nat)) False fun n11 =>
 (Eng.asBool (Eng.getC a0.1 (Int.toNat n10) (1 : Nat)) False fun b12 =>
 (Eng.asStr (Eng.getC a0.1 (Int.toNat n10) (2 : Nat)) False fun t13 =>
 K (n11, b12, t13, ()))))
 else
 False))
 else
 False)))
 else
 (if decide (r2 < 0) then
 (if (0 :Int) ≤ 0 ∧ 0 < (↑(List.length a0.1) : Int) then
 (Eng.asInt IntKind.i64 (Eng.getC a0.1 (0 : Nat) (0 : Nat)) False fun n14 =>
 (Eng.asBool (Eng.getC a0.1 (0 : Nat) (1 : Nat)) False fun b15 =>
 (Eng.asStr (Eng.getC a0.1 (0 : Nat) (2 : Nat)) False fun t16 =>
 K (n14, b15, t16, ()))))
 else
 False)
 else
 (if 0 ≤ r2 ∧ r2 < (↑(List.length a0.2.1) : Int) then
 (Eng.asInt IntKind.i64 (Eng.getC a0.2.1 (Int.toNat r2) (1 : Nat)) False fun n17 =>
 (if 0 ≤ n17 ∧ n17 < (↑(List.length a0.1) : Int) then
 (Eng.asInt IntKind.i64 (Eng.getC a0.1 (Int.toNat n17) (0 : Nat)) False fun n18 =>
 (Eng.asBool (Eng.getC a0.1 (Int.toNat n17) (1 : Nat)) False fun b19 =>
 (Eng.asStr (Eng.getC a0.1 (Int.toNat n17) (2 : Nat)) False fun t20 =>
 K (n18, b19, t20, ()))))
 else
 False))
 else
 False))))
def Xzone_Lookup : Tzone_Lookup := Yzone_Lookup Xzone_Index Xfoot_Parse Xzone_Posix Xfoot_Lookup
def Jzone_Lookup (X : Tzone_Lookup) : Inst := mkI 50 pL72 .nil pL84 .nil X
def Izone_Lookup : Inst := Jzone_Lookup Xzone_Lookup
theorem Ezone_Lookup (xzone_Index : Tzone_Index) (xfoot_Parse : Tfoot_Parse) (xzone_Posix : Tzone_Posix) (xfoot_Lookup : Tfoot_Lookup) : EqF Tryz.prog 51 gives Tryz.f50 [Jzone_Index xzone_Index, Jfoot_Parse xfoot_Parse, Jzone_Posix xzone_Posix, Jfoot_Lookup xfoot_Lookup] [] (Jzone_Lookup (Yzone_Lookup xzone_Index xfoot_Parse xzone_Posix xfoot_Lookup)) := fun x y K => by kernel_rfl
theorem Izone_Lookup_ok : InstOk Tryz.prog G.1 Izone_Lookup := iok (gives := gives) [] (okCons Izone_Index_ok (okCons Ifoot_Parse_ok (okCons Izone_Posix_ok (okCons Ifoot_Lookup_ok okNil)))) 51 follows Tryz.func50 (by kernel_rfl) (fun x => by kernel_rfl) (Ezone_Lookup Xzone_Index Xfoot_Parse Xzone_Posix Xfoot_Lookup)
abbrev Tepactlaw16_Few : Type := Q15 → (Bool → Prop) → Prop
def Lepactlaw16_Few_0 (K : Bool → Prop) : (Q127 → Prop) → Q127 → Prop := fun k1 x2 =>
 (if decide (x2.1.2.2.1 < (↑(List.length x2.2.1.1) : Int)) then
 (if decide (x2.1.2.2.1 < 100) then
 (if 0 ≤ x2.1.2.2.1 ∧ x2.1.2.2.1 < (↑(List.length x2.2.1.1) : Int) then
 (Eng.asStr (Eng.getC x2.2.1.1 (Int.toNat x2.1.2.2.1) (2 : Nat)) False fun t3 =>
 (if decide ((↑(ByteArray.size t3) : Int) > 100) then
 K false
 else
 k1 (((), x2.1.2.1, w64 (x2.1.2.2.1 + 1), ()), x2.2)))
 else
 False)
 else
 (if decide ((↑(List.length x2.2.1.1) : Int) ≤ 100) then
 (if decide ((↑(List.length x2.2.1.2.1) : Int) ≤ 300) then
 (if decide ((↑(List.length x2.2.1.2.2.1) : Int) ≤ 300) then
 K (decide ((↑(ByteArray.size x2.2.1.2.2.2.1) : Int) ≤ 200))
 else
 K false)
 else
 K false)
 else
 K false))
 else
 (if decide ((↑(List.length x2.2.1.1) : Int) ≤ 100) then
 (if decide ((↑(List.length x2.2.1.2.1) : Int) ≤ 300) then
 (if decide ((↑(List.length x2.2.1.2.2.1) : Int) ≤ 300) then
 K (decide ((↑(ByteArray.size x2.2.1.2.2.2.1) : Int) ≤ 200))
 else
 K false)
 else
 K false)
 else
 K false))
def Lepactlaw16_Few_0p : Lp := ⟨14, [.trim 14], pT128, pH129, 0⟩
def Yepactlaw16_Few (a0 : Q15) (K : Bool → Prop) : Prop :=
 lp (Lepactlaw16_Few_0 K) (((), false, 0, ()), a0, ())
def Xepactlaw16_Few : Tepactlaw16_Few := Yepactlaw16_Few
def Jepactlaw16_Few (X : Tepactlaw16_Few) : Inst := mkI 10 pL19 .nil pL1 .nil X
def Iepactlaw16_Few : Inst := Jepactlaw16_Few Xepactlaw16_Few
theorem Eepactlaw16_Few : EqF Tryz.prog 45 gives Tryz.f10 [] [Lepactlaw16_Few_0p] (Jepactlaw16_Few (Yepactlaw16_Few)) := fun x y K => by kernel_rfl
theorem Iepactlaw16_Few_ok : InstOk Tryz.prog G.1 Iepactlaw16_Few := iok (gives := gives) [Lepactlaw16_Few_0p] okNil 45 follows Tryz.func10 (by kernel_rfl) (fun x => by kernel_rfl) (Eepactlaw16_Few)
end Go.Proofs.YtbnpclndiichcaaGreatDoor
end
section
set_option linter.unusedVariables false
set_option linter.unusedSimpArgs false
namespace Go.Proofs.YtbnpclndiichcaaGreatDoor
open Go Go.Proofs.YtbnpclndiichcaaGreatDoor.Eng
set_option linter.unusedVariables false
set_option maxRecDepth 100000
set_option maxHeartbeats 4000000
variable {G : Gs}
abbrev uQ0 : Type := Int × Int × Int × Int × Int × Int × Int × Unit
abbrev upL1 : PL := (.cons (.agg (.cons (.int .i64) (.cons (.int .i64) (.cons (.int .i64) (.cons (.int .i64) (.cons (.int .i64) (.cons (.int .i64) (.cons (.int .i64) .nil)))))))) (.cons (.int .i64) .nil))
abbrev upL2 : PL := (.cons (.int .i64) .nil)
abbrev upL3 : PL := (.cons (.slN 1) .nil)
abbrev upL4 : PL := (.cons (.sla 0) .nil)
abbrev upH5 : PH := (.cons 0 (.arrB 1) .nil)
abbrev upL6 : PL := (.cons (.ptr 0 0) .nil)
abbrev upH7 : PH := (.cons 0 (.cells [.sl 1, .bool] (.cons (.sla 1) (.cons .bool .nil))) (.cons 1 (.arrB 1) .nil))
abbrev upL8 : PL := (.cons (.int .i64) (.cons (.int .i64) .nil))
abbrev upL9 : PL := (.cons .bool .nil)
abbrev upL10 : PL := (.cons (.ptr 0 0) (.cons (.int .i64) .nil))
abbrev upL11 : PL := (.cons (.sla 1) .nil)
abbrev upH12 : PH := (.cons 0 (.cells [.sl 1, .bool] (.cons (.sla 2) (.cons .bool .nil))) (.cons 1 (.arrB 1) (.cons 2 (.arrB 1) .nil)))
abbrev uQ13 : Type := (Int × Int × Unit × Int × Int × Unit) × (Unit × Bool × Unit) × (List Eng.V × Bool × Bool) × (List Eng.V × Bool × Bool) × Unit
abbrev upT14 : PT := (.cons 1 (.int .i64) (.cons 4 (.int .i64) (.cons 12 (.sla 257) (.cons 13 (.int .i64) (.cons 14 (.int .i64) .nil)))))
abbrev upH15 : PH := (.cons 0 (.cells [.sl 1, .bool] (.cons (.sla 256) (.cons .bool .nil))) (.cons 256 (.arrB 1) (.cons 257 (.arrB 1) .nil)))
abbrev upH16 : PH := (.cons 0 (.cells [.sl 1, .bool] (.cons (.slN 1) (.cons .bool .nil))) .nil)
abbrev upT18 : PT := (.cons 0 (.ptr 0 0) (.cons 4 (.sla 672) (.cons 5 (.sla 688) (.cons 6 .bool (.cons 9 (.int .i64) (.cons 10 (.int .i64) .nil))))))
abbrev upL20 : PL := (.cons (.sla 1) (.cons (.sla 2) (.cons .bool .nil)))
abbrev upH21 : PH := (.cons 0 (.cells [.sl 1, .bool] (.cons (.sla 3) (.cons .bool .nil))) (.cons 1 (.arrB 3) (.cons 2 (.arrB 1) (.cons 3 (.arrB 1) .nil))))
abbrev upL22 : PL := (.cons .str (.cons (.int .i64) .nil))
abbrev upL23 : PL := (.cons .str (.cons .bool .nil))
abbrev upL24 : PL := (.cons (.int .u8) .nil)
abbrev uQ25 : Type := (List Eng.V × (Unit × Unit) × Int × Int × Int × Unit) × Unit
abbrev upT26 : PT := (.cons 0 (.slN 1) (.cons 1 (.fn (.func 128) .nil .nil) (.cons 4 (.int .i64) (.cons 7 (.int .i64) (.cons 8 (.int .i64) .nil)))))
abbrev upL27 : PL := (.cons (.slN 1) (.cons (.fn (.func 128) .nil .nil) .nil))
abbrev uQ28 : Type := (List Eng.V × List Eng.V × Bool × (Unit × Unit) × List Eng.V × Int × Int × Unit) × Unit
abbrev upT29 : PT := (.cons 0 (.slN 1) (.cons 1 (.slN 1) (.cons 4 .bool (.cons 5 (.fn (.func 128) .nil .nil) (.cons 8 (.slN 1) (.cons 9 (.int .i64) (.cons 10 (.int .i64) .nil)))))))
abbrev upL30 : PL := (.cons (.slN 1) (.cons (.slN 1) .nil))
abbrev uQ31 : Type := (Unit × Unit × Unit × Bool × Int × Int × Unit) × (List Eng.V × Bool × Unit) × (List Eng.V × Bool × Bool) × List Eng.V × List Eng.V × Unit
abbrev upH32 : PH := (.cons 0 (.cells [.sl 1, .bool] (.cons (.slN 1) (.cons .bool .nil))) (.cons 1 (.arrB 1) (.cons 672 (.arr 3 true false) (.cons 688 (.arr 1 true false) .nil))))
abbrev uQ33 : Type := Unit × Unit × Unit × ByteArray × Int × Unit
abbrev uQ34 : Type := (Int × Unit × Unit × Bool × Unit × Unit × Int × Int × Unit) × (Int × Int × Int × Int × Int × Int × Int × Unit) × (Unit × Unit × Unit × ByteArray × Int × Unit) × (Unit × Unit × Unit × ByteArray × Int × Unit) × (Unit × Bool × Unit) × (List Eng.V × Bool × Bool) × List Eng.V × Unit
abbrev uQ35 : Type := (Int × Unit × Unit × Bool × Unit × Unit × Unit × Unit × Bool × ByteArray × Int × Int × Unit) × (Int × Int × Int × Int × Int × Int × Int × Unit) × (Unit × Unit × Unit × ByteArray × Int × Unit) × (Unit × Unit × Unit × ByteArray × Int × Unit) × (Unit × Bool × Unit) × List Eng.V × (List Eng.V × Bool × Bool) × (List Eng.V × Bool × Bool) × (List Eng.V × Bool × Bool) × Unit
abbrev uQ36 : Type := (Int × Unit × Unit × Bool × Unit × Unit × Bool × Int × Int × Unit) × (Int × Int × Int × Int × Int × Int × Int × Unit) × (List Eng.V × List Eng.V × List Eng.V × ByteArray × Int × Unit) × (Unit × Unit × Unit × ByteArray × Int × Unit) × (Unit × Bool × Unit) × List Eng.V × (List Eng.V × Bool × Bool) × (List Eng.V × Bool × Bool) × List Eng.V × Unit
abbrev upT37 : PT := (.cons 2 (.int .i64) (.cons 3 (.ptr 112 0) (.cons 6 (.ptr 160 0) (.cons 7 .bool (.cons 9 (.ptr 608 0) (.cons 10 (.ptr 224 0) (.cons 15 .bool (.cons 109 (.int .i64) (.cons 110 (.int .i64) .nil)))))))))
abbrev upH38 : PH := (.cons 112 (.cells [.int .i64, .int .i64, .int .i64, .int .i64, .int .i64, .int .i64, .int .i64] (.cons (.int .i64) (.cons (.int .i64) (.cons (.int .i64) (.cons (.int .i64) (.cons (.int .i64) (.cons (.int .i64) (.cons (.int .i64) .nil)))))))) (.cons 160 (.cells [.sl 3, .sl 2, .sl 2, .str, .int .i64] (.cons (.slN 3) (.cons (.slN 2) (.cons (.slN 2) (.cons .str (.cons (.int .i64) .nil)))))) (.cons 224 (.cells [.sl 3, .sl 2, .sl 2, .str, .int .i64] (.cons (.sla 1249) (.cons (.sla 688) (.cons (.sla 2672) (.cons .str (.cons (.int .i64) .nil)))))) (.cons 608 (.cells [.sl 1, .bool] (.cons (.sla 1360) (.cons .bool .nil))) (.cons 688 (.arr 2 true false) (.cons 1249 (.arrB 3) (.cons 1360 (.arrB 1) (.cons 2672 (.arr 2 true false) .nil))))))))
abbrev upT39 : PT := (.cons 2 (.int .i64) (.cons 3 (.ptr 112 0) (.cons 6 (.ptr 160 0) (.cons 7 .bool (.cons 9 (.ptr 608 0) (.cons 10 (.ptr 224 0) (.cons 13 (.sla 1249) (.cons 14 (.sla 1250) (.cons 15 .bool (.cons 16 .str (.cons 84 (.int .i64) (.cons 85 (.int .i64) .nil))))))))))))
abbrev upH40 : PH := (.cons 112 (.cells [.int .i64, .int .i64, .int .i64, .int .i64, .int .i64, .int .i64, .int .i64] (.cons (.int .i64) (.cons (.int .i64) (.cons (.int .i64) (.cons (.int .i64) (.cons (.int .i64) (.cons (.int .i64) (.cons (.int .i64) .nil)))))))) (.cons 160 (.cells [.sl 3, .sl 2, .sl 2, .str, .int .i64] (.cons (.nl 3) (.cons (.nl 2) (.cons (.nl 2) (.cons .str (.cons (.int .i64) .nil)))))) (.cons 224 (.cells [.sl 3, .sl 2, .sl 2, .str, .int .i64] (.cons (.nl 3) (.cons (.sla 688) (.cons (.nl 2) (.cons .str (.cons (.int .i64) .nil)))))) (.cons 608 (.cells [.sl 1, .bool] (.cons (.sla 1360) (.cons .bool .nil))) (.cons 688 (.arr 2 true false) (.cons 1249 (.arrB 3) (.cons 1250 (.arrB 1) (.cons 1360 (.arrB 1) .nil))))))))
abbrev upT41 : PT := (.cons 2 (.int .i64) (.cons 3 (.ptr 112 0) (.cons 6 (.ptr 160 0) (.cons 7 .bool (.cons 9 (.ptr 608 0) (.cons 10 (.ptr 224 0) (.cons 58 (.int .i64) (.cons 59 (.int .i64) .nil))))))))
abbrev upH42 : PH := (.cons 112 (.cells [.int .i64, .int .i64, .int .i64, .int .i64, .int .i64, .int .i64, .int .i64] (.cons (.int .i64) (.cons (.int .i64) (.cons (.int .i64) (.cons (.int .i64) (.cons (.int .i64) (.cons (.int .i64) (.cons (.int .i64) .nil)))))))) (.cons 160 (.cells [.sl 3, .sl 2, .sl 2, .str, .int .i64] (.cons (.nl 3) (.cons (.nl 2) (.cons (.nl 2) (.cons .str (.cons (.int .i64) .nil)))))) (.cons 224 (.cells [.sl 3, .sl 2, .sl 2, .str, .int .i64] (.cons (.nl 3) (.cons (.sla 688) (.cons (.nl 2) (.cons .str (.cons (.int .i64) .nil)))))) (.cons 608 (.cells [.sl 1, .bool] (.cons (.sla 609) (.cons .bool .nil))) (.cons 609 (.arrB 1) (.cons 688 (.arr 2 true false) .nil))))))
abbrev upT43 : PT := (.cons 2 (.int .i64) (.cons 3 (.ptr 112 0) (.cons 6 (.ptr 160 0) (.cons 7 .bool (.cons 9 (.ptr 608 0) (.cons 10 (.ptr 224 0) (.cons 43 (.int .i64) (.cons 44 (.int .i64) .nil))))))))
abbrev upL44 : PL := (.cons (.agg (.cons (.int .i64) (.cons (.int .i64) (.cons (.int .i64) (.cons (.int .i64) (.cons (.int .i64) (.cons (.int .i64) (.cons (.int .i64) .nil)))))))) (.cons (.slN 1) (.cons (.int .i64) .nil)))
abbrev upL45 : PL := (.cons (.agg (.cons (.sla 0) (.cons (.sla 1) (.cons (.sla 2) (.cons .str (.cons (.int .i64) .nil)))))) (.cons .bool .nil))
abbrev upH46 : PH := (.cons 0 (.arrB 3) (.cons 1 (.arrB 2) (.cons 2 (.arrB 2) .nil)))
abbrev uQ47 : Type := (Int × Unit × Bool × Unit × Int × Unit) × (List Eng.V × Bool × Bool) × Unit
abbrev upT48 : PT := (.cons 1 (.int .i64) (.cons 6 (.nl 0) (.cons 7 .bool (.cons 8 (.sla 240) (.cons 9 (.int .i64) .nil)))))
abbrev upH49 : PH := (.cons 240 (.arrB 1) .nil)
abbrev upL50 : PL := (.cons (.slN 1) (.cons (.int .i64) (.cons (.int .i64) .nil)))
abbrev upL51 : PL := (.cons (.sla 0) (.cons .bool .nil))
abbrev upL56 : PL := (.cons (.ptr 0 0) (.cons (.int .i64) (.cons (.int .i64) .nil)))
abbrev uQ58 : Type := List Eng.V × List Eng.V × List Eng.V × ByteArray × Int × Unit
abbrev uQ59 : Type := (Int × Unit × Unit × Bool × ByteArray × Unit × Unit × List Eng.V × Int × Int × Unit) × (List Eng.V × List Eng.V × List Eng.V × ByteArray × Int × Unit) × (Unit × Bool × Unit) × (List Eng.V × Bool × Bool) × (List Eng.V × Bool × Bool) × Unit
abbrev uQ60 : Type := (Int × Unit × Bool × Unit × List Eng.V × Int × Int × Unit) × (Unit × Bool × Unit) × (List Eng.V × Bool × Bool) × Unit
abbrev upT61 : PT := (.cons 1 (.int .i64) (.cons 4 (.nl 0) (.cons 5 .bool (.cons 11 (.ptr 240 0) (.cons 91 (.slN 2) (.cons 92 (.int .i64) (.cons 93 (.int .i64) .nil)))))))
abbrev upH62 : PH := (.cons 240 (.cells [.sl 1, .bool] (.cons (.sla 2128) (.cons .bool .nil))) (.cons 2128 (.arrB 1) .nil))
abbrev upT63 : PT := (.cons 1 (.int .i64) (.cons 2 (.ptr 96 0) (.cons 4 (.nl 0) (.cons 5 .bool (.cons 8 .str (.cons 9 (.sla 656) (.cons 11 (.ptr 240 0) (.cons 65 (.slN 3) (.cons 66 (.int .i64) (.cons 67 (.int .i64) .nil))))))))))
abbrev upH64 : PH := (.cons 96 (.cells [.sl 3, .sl 2, .sl 2, .str, .int .i64] (.cons (.slN 3) (.cons (.slN 2) (.cons (.slN 2) (.cons .str (.cons (.int .i64) .nil)))))) (.cons 240 (.cells [.sl 1, .bool] (.cons (.sla 2128) (.cons .bool .nil))) (.cons 656 (.arrB 1) (.cons 2128 (.arrB 1) .nil))))
abbrev upT65 : PT := (.cons 1 (.int .i64) (.cons 2 (.ptr 96 0) (.cons 4 (.nl 0) (.cons 5 .bool (.cons 8 .str (.cons 9 (.sla 656) (.cons 11 (.ptr 240 0) (.cons 54 (.slN 2) (.cons 55 (.int .i64) (.cons 56 (.int .i64) .nil))))))))))
abbrev upT66 : PT := (.cons 1 (.int .i64) (.cons 2 (.ptr 96 0) (.cons 4 (.nl 0) (.cons 5 .bool (.cons 8 .str (.cons 9 (.sla 656) (.cons 11 (.ptr 240 0) (.cons 42 (.slN 2) (.cons 43 (.int .i64) (.cons 44 (.int .i64) .nil))))))))))
abbrev upL67 : PL := (.cons (.agg (.cons (.slN 3) (.cons (.slN 2) (.cons (.slN 2) (.cons .str (.cons (.int .i64) .nil)))))) (.cons (.int .i64) .nil))
abbrev upL74 : PL := (.cons (.agg (.cons (.slN 3) (.cons (.slN 2) (.cons (.slN 2) (.cons .str (.cons (.int .i64) .nil)))))) .nil)
abbrev upL85 : PL := (.cons (.slN 2) (.cons (.slN 2) .nil))
abbrev upL90 : PL := (.cons (.agg (.cons (.slN 3) (.cons (.slN 2) (.cons (.slN 2) (.cons .str (.cons (.int .i64) .nil)))))) (.cons (.agg (.cons (.slN 3) (.cons (.slN 2) (.cons (.slN 2) (.cons .str (.cons (.int .i64) .nil)))))) .nil))
abbrev uQ91 : Type := (List Eng.V × List Eng.V × Bool × Int × Int × Unit) × Unit
abbrev upT92 : PT := (.cons 0 (.slN 3) (.cons 1 (.slN 3) (.cons 4 .bool (.cons 12 (.int .i64) (.cons 13 (.int .i64) .nil)))))
abbrev upL93 : PL := (.cons (.slN 3) (.cons (.slN 3) .nil))
abbrev upT94 : PT := (.cons 0 (.slN 2) (.cons 1 (.slN 2) (.cons 4 .bool (.cons 12 (.int .i64) (.cons 13 (.int .i64) .nil)))))
abbrev upL95 : PL := (.cons (.slN 3) .nil)
abbrev upH96 : PH := (.cons 0 (.arrB 3) .nil)
abbrev upL97 : PL := (.cons (.slN 2) .nil)
abbrev upH98 : PH := (.cons 0 (.arrB 2) .nil)
abbrev upL99 : PL := (.cons (.agg (.cons (.sla 0) (.cons (.sla 1) (.cons (.sla 2) (.cons .str (.cons (.int .i64) .nil)))))) .nil)
abbrev Thead_Size : Type := uQ0 → Int → (Int → Prop) → Prop
def Yhead_Size (xhead_Right : Thead_Right) (a0 : uQ0) (a1 : Int) (K : Int → Prop) : Prop :=
 xhead_Right a0 (fun r2 =>
 (if (!r2) then
 (if (!r2) then
 K 0
 else
 (lt (w64 (a0.2.2.2.2.1 * w64 (a1 + 1))) fun v3 =>
 (lt (w64 (v3 + w64 (a0.2.2.2.2.2.1 * 6))) fun v4 =>
 (lt (w64 (a0.2.2.2.1 * w64 (a1 + 4))) fun v5 =>
 (lt (w64 (w64 (v4 + a0.2.2.2.2.2.2.1) + v5)) fun v6 =>
 (lt (w64 (w64 (v6 + a0.2.2.1) + a0.2.1)) fun v7 =>
 K v7))))))
 else
 (if (a1 != 4) then
 (if (a1 != 8) then
 K 0
 else
 (lt (w64 (a0.2.2.2.2.1 * w64 (a1 + 1))) fun v8 =>
 (lt (w64 (v8 + w64 (a0.2.2.2.2.2.1 * 6))) fun v9 =>
 (lt (w64 (a0.2.2.2.1 * w64 (a1 + 4))) fun v10 =>
 (lt (w64 (w64 (v9 + a0.2.2.2.2.2.2.1) + v10)) fun v11 =>
 (lt (w64 (w64 (v11 + a0.2.2.1) + a0.2.1)) fun v12 =>
 K v12))))))
 else
 (lt (w64 (a0.2.2.2.2.1 * w64 (a1 + 1))) fun v13 =>
 (lt (w64 (v13 + w64 (a0.2.2.2.2.2.1 * 6))) fun v14 =>
 (lt (w64 (a0.2.2.2.1 * w64 (a1 + 4))) fun v15 =>
 (lt (w64 (w64 (v14 + a0.2.2.2.2.2.2.1) + v15)) fun v16 =>
 (lt (w64 (w64 (v16 + a0.2.2.1) + a0.2.1)) fun v17 =>
 K v17))))))))
def Xhead_Size : Thead_Size := Yhead_Size Xhead_Right
def Jhead_Size (X : Thead_Size) : Inst := mkI 40 upL1 .nil upL2 .nil X
def Ihead_Size : Inst := Jhead_Size Xhead_Size
theorem Ehead_Size (xhead_Right : Thead_Right) : EqF Tryz.prog 39 gives Tryz.f40 [Jhead_Right xhead_Right] [] (Jhead_Size (Yhead_Size xhead_Right)) := fun x y K => by kernel_rfl
theorem Ihead_Size_ok : InstOk Tryz.prog G.1 Ihead_Size := iok (gives := gives) [] (okCons Ihead_Right_ok okNil) 39 follows Tryz.func40 (by kernel_rfl) (fun x => by kernel_rfl) (Ehead_Size Xhead_Right)
abbrev Tslices_Clone___byte_byte_ : Type := (List Eng.V) → ((List Eng.V) → Bool → Bool → Prop) → Prop
def Yslices_Clone___byte_byte_ (a0 : (List Eng.V)) (K : (List Eng.V) → Bool → Bool → Prop) : Prop :=
 (if List.length a0 = (0 : Nat) then
 (
 K [] true true
 ∧
 (if Eng.roomOk ((0 : Nat) + List.length a0) (1 : Nat) then
 K ([] ++ a0) true false
 else
 False))
 else
 (if Eng.roomOk ((0 : Nat) + List.length a0) (1 : Nat) then
 K ([] ++ a0) true false
 else
 False))
def Xslices_Clone___byte_byte_ : Tslices_Clone___byte_byte_ := Yslices_Clone___byte_byte_
def Jslices_Clone___byte_byte_ (X : Tslices_Clone___byte_byte_) : Inst := mkI 126 upL3 .nil upL4 upH5 X
def Islices_Clone___byte_byte_ : Inst := Jslices_Clone___byte_byte_ Xslices_Clone___byte_byte_
theorem Eslices_Clone___byte_byte_ : EqF Tryz.prog 8 gives Tryz.f126 [] [] (Jslices_Clone___byte_byte_ (Yslices_Clone___byte_byte_)) := fun x y K => by kernel_rfl
theorem Islices_Clone___byte_byte__ok : InstOk Tryz.prog G.1 Islices_Clone___byte_byte_ := iok (gives := gives) [] okNil 8 follows Tryz.func126 (by kernel_rfl) (fun x => by kernel_rfl) (Eslices_Clone___byte_byte_)
abbrev Toctet_Open : Type := (List Eng.V) → (Bool → (List Eng.V) → Bool → Bool → Prop) → Prop
def Yoctet_Open (xslices_Clone___byte_byte_ : Tslices_Clone___byte_byte_) (a0 : (List Eng.V)) (K : Bool → (List Eng.V) → Bool → Bool → Prop) : Prop :=
 xslices_Clone___byte_byte_ a0 (fun r1 r2 r3 =>
 K false r1 r2 r3)
def Xoctet_Open : Toctet_Open := Yoctet_Open Xslices_Clone___byte_byte_
def Joctet_Open (X : Toctet_Open) : Inst := mkI 63 upL3 .nil upL6 upH7 X
def Ioctet_Open : Inst := Joctet_Open Xoctet_Open
theorem Eoctet_Open (xslices_Clone___byte_byte_ : Tslices_Clone___byte_byte_) : EqF Tryz.prog 7 gives Tryz.f63 [Jslices_Clone___byte_byte_ xslices_Clone___byte_byte_] [] (Joctet_Open (Yoctet_Open xslices_Clone___byte_byte_)) := fun x y K => by kernel_rfl
theorem Ioctet_Open_ok : InstOk Tryz.prog G.1 Ioctet_Open := iok (gives := gives) [] (okCons Islices_Clone___byte_byte__ok okNil) 7 follows Tryz.func63 (by kernel_rfl) (fun x => by kernel_rfl) (Eoctet_Open Xslices_Clone___byte_byte_)
abbrev Toctet_may : Type := Int → Int → (Bool → Prop) → Prop
def Yoctet_may (a0 : Int) (a1 : Int) (K : Bool → Prop) : Prop :=
 (if (a1 == 1) then
 K (a0 == w64 (wu8 a0))
 else
 (if (a1 == 4) then
 (if (a0 != w64 (wi32 a0)) then
 K false
 else
 K true)
 else
 (if (a1 == 8) then
 K true
 else
 K false)))
def Xoctet_may : Toctet_may := Yoctet_may
def Joctet_may (X : Toctet_may) : Inst := mkI 127 upL8 .nil upL9 .nil X
def Ioctet_may : Inst := Joctet_may Xoctet_may
theorem Eoctet_may : EqF Tryz.prog 22 gives Tryz.f127 [] [] (Joctet_may (Yoctet_may)) := fun x y K => by kernel_rfl
theorem Ioctet_may_ok : InstOk Tryz.prog G.1 Ioctet_may := iok (gives := gives) [] okNil 22 follows Tryz.func127 (by kernel_rfl) (fun x => by kernel_rfl) (Eoctet_may)
abbrev Toctet_Reader_Take : Type := Int → Bool → (List Eng.V) → Bool → Bool → (Bool → (List Eng.V) → Bool → Bool → (List Eng.V) → Bool → Bool → Prop) → Prop
def Yoctet_Reader_Take (xslices_Clone___byte_byte_ : Tslices_Clone___byte_byte_) (a0 : Int) (a1 : Bool) (a2 : (List Eng.V)) (a3 : Bool) (a4 : Bool) (K : Bool → (List Eng.V) → Bool → Bool → (List Eng.V) → Bool → Bool → Prop) : Prop :=
 (if a1 then
 K true [] true true [] true true
 else
 (if decide (a0 < 0) then
 K true [] true true [] true true
 else
 (if decide (a0 > (↑(List.length a2) : Int)) then
 K true [] true true [] true true
 else
 (if 0 ≤ a0 ∧ a0 ≤ (↑(List.length a2) : Int) then
 (if (0 :Int) ≤ 0 ∧ 0 ≤ a0 then
 xslices_Clone___byte_byte_ (Eng.cutL a2 (0 : Nat) (Int.toNat a0 - (0 : Nat))) (fun r5 r6 r7 =>
 (if 0 ≤ (↑(List.length a2) : Int) ∧ (↑(List.length a2) : Int) ≤ (↑(List.length a2) : Int) then
 (if 0 ≤ a0 ∧ a0 ≤ (↑(List.length a2) : Int) then
 K a1 r5 r6 r7 (Eng.cutL a2 (Int.toNat a0) (Int.toNat (↑(List.length a2) : Int) - Int.toNat a0)) false true
 else
 False)
 else
 False))
 else
 False)
 else
 False))))
def Xoctet_Reader_Take : Toctet_Reader_Take := Yoctet_Reader_Take Xslices_Clone___byte_byte_
def Joctet_Reader_Take (X : Toctet_Reader_Take) : Inst := mkI 66 upL10 upH7 upL11 upH12 X
def Ioctet_Reader_Take : Inst := Joctet_Reader_Take Xoctet_Reader_Take
theorem Eoctet_Reader_Take (xslices_Clone___byte_byte_ : Tslices_Clone___byte_byte_) : EqF Tryz.prog 46 gives Tryz.f66 [Jslices_Clone___byte_byte_ xslices_Clone___byte_byte_] [] (Joctet_Reader_Take (Yoctet_Reader_Take xslices_Clone___byte_byte_)) := fun x y K => by kernel_rfl
theorem Ioctet_Reader_Take_ok : InstOk Tryz.prog G.1 Ioctet_Reader_Take := iok (gives := gives) [] (okCons Islices_Clone___byte_byte__ok okNil) 46 follows Tryz.func66 (by kernel_rfl) (fun x => by kernel_rfl) (Eoctet_Reader_Take Xslices_Clone___byte_byte_)
abbrev Toctet_Reader_Num : Type := Int → Bool → (List Eng.V) → Bool → Bool → (Int → Bool → (List Eng.V) → Bool → Bool → Prop) → Prop
def Loctet_Reader_Num_0 (K : Int → Bool → (List Eng.V) → Bool → Bool → Prop) (a1 : Bool) (a2 : (List Eng.V)) (a3 : Bool) (a4 : Bool) : (uQ13 → Prop) → uQ13 → Prop := fun k13 x14 =>
 (if decide (x14.1.2.2.2.2.1 < x14.1.2.2.2.1) then
 (if 0 ≤ x14.1.2.2.2.2.1 ∧ x14.1.2.2.2.2.1 < (↑(List.length x14.2.2.2.1.1) : Int) then
 (Eng.asInt IntKind.u8 (Eng.getC x14.2.2.2.1.1 (Int.toNat x14.1.2.2.2.2.1) (0 : Nat)) False fun n15 =>
 (if (x14.1.2.2.2.2.1 == 0) then
 (if (x14.1.1 == 4) then
 k13 ((x14.1.1, w64 (IntKind.wrap IntKind.i8 n15), (), x14.1.2.2.2.1, w64 (x14.1.2.2.2.2.1 + 1), ()), ((), x14.2.1.2), x14.2.2)
 else
 (lt (w64 (↑(BitVec.toNat (BitVec.ofInt (64 : Nat) (w64 (x14.1.2.1 * 256)) ||| BitVec.ofInt (64 : Nat) (w64 n15))) : Int)) fun v16 =>
 k13 ((x14.1.1, v16, (), x14.1.2.2.2.1, w64 (x14.1.2.2.2.2.1 + 1), ()), ((), x14.2.1.2), x14.2.2)))
 else
 (lt (w64 (↑(BitVec.toNat (BitVec.ofInt (64 : Nat) (w64 (x14.1.2.1 * 256)) ||| BitVec.ofInt (64 : Nat) (w64 n15))) : Int)) fun v17 =>
 k13 ((x14.1.1, v17, (), x14.1.2.2.2.1, w64 (x14.1.2.2.2.2.1 + 1), ()), ((), x14.2.1.2), x14.2.2))))
 else
 False)
 else
 K x14.1.2.1 x14.2.1.2.1 x14.2.2.1.1 x14.2.2.1.2.1 x14.2.2.1.2.2)
def Loctet_Reader_Num_0p : Lp := ⟨28690, [.trim 28690], upT14, upH15, 0⟩
def Yoctet_Reader_Num (xoctet_may : Toctet_may) (xoctet_Reader_Take : Toctet_Reader_Take) (a0 : Int) (a1 : Bool) (a2 : (List Eng.V)) (a3 : Bool) (a4 : Bool) (K : Int → Bool → (List Eng.V) → Bool → Bool → Prop) : Prop :=
 xoctet_may 0 a0 (fun r5 =>
 (if (!r5) then
 xoctet_Reader_Take (-1) a1 a2 a3 a4 (fun r6 r7 r8 r9 r10 r11 r12 =>
 lp (Loctet_Reader_Num_0 K a1 a2 a3 a4) (((-1), 0, (), (↑(List.length r7) : Int), 0, ()), ((), r6, ()), (r10, r11, r12), (r7, r8, r9), ()))
 else
 xoctet_Reader_Take a0 a1 a2 a3 a4 (fun r18 r19 r20 r21 r22 r23 r24 =>
 lp (Loctet_Reader_Num_0 K a1 a2 a3 a4) ((a0, 0, (), (↑(List.length r19) : Int), 0, ()), ((), r18, ()), (r22, r23, r24), (r19, r20, r21), ()))))
def Xoctet_Reader_Num : Toctet_Reader_Num := Yoctet_Reader_Num Xoctet_may Xoctet_Reader_Take
def Joctet_Reader_Num (X : Toctet_Reader_Num) : Inst := mkI 64 upL10 upH7 upL2 upH7 X
def Ioctet_Reader_Num : Inst := Joctet_Reader_Num Xoctet_Reader_Num
theorem Eoctet_Reader_Num (xoctet_may : Toctet_may) (xoctet_Reader_Take : Toctet_Reader_Take) : EqF Tryz.prog 35 gives Tryz.f64 [Joctet_may xoctet_may, Joctet_Reader_Take xoctet_Reader_Take] [Loctet_Reader_Num_0p] (Joctet_Reader_Num (Yoctet_Reader_Num xoctet_may xoctet_Reader_Take)) := fun x y K => by kernel_rfl
theorem Ioctet_Reader_Num_ok : InstOk Tryz.prog G.1 Ioctet_Reader_Num := iok (gives := gives) [Loctet_Reader_Num_0p] (okCons Ioctet_may_ok (okCons Ioctet_Reader_Take_ok okNil)) 35 follows Tryz.func64 (by kernel_rfl) (fun x => by kernel_rfl) (Eoctet_Reader_Num Xoctet_may Xoctet_Reader_Take)
abbrev Toctet_Reader_Take_1 : Type := Int → (List Eng.V) → Bool → (Bool → (List Eng.V) → Bool → Bool → (List Eng.V) → Bool → Bool → Prop) → Prop
def Yoctet_Reader_Take_1 (xslices_Clone___byte_byte_ : Tslices_Clone___byte_byte_) (a0 : Int) (a1 : (List Eng.V)) (a2 : Bool) (K : Bool → (List Eng.V) → Bool → Bool → (List Eng.V) → Bool → Bool → Prop) : Prop :=
 (if a2 then
 K true [] true true [] true true
 else
 (if decide (a0 < 0) then
 K true [] true true [] true true
 else
 (if decide (a0 > (↑(List.length a1) : Int)) then
 K true [] true true [] true true
 else
 (if 0 ≤ a0 ∧ a0 ≤ (↑(List.length a1) : Int) then
 (if (0 :Int) ≤ 0 ∧ 0 ≤ a0 then
 xslices_Clone___byte_byte_ (Eng.cutL a1 (0 : Nat) (Int.toNat a0 - (0 : Nat))) (fun r3 r4 r5 =>
 (if 0 ≤ (↑(List.length a1) : Int) ∧ (↑(List.length a1) : Int) ≤ (↑(List.length a1) : Int) then
 (if 0 ≤ a0 ∧ a0 ≤ (↑(List.length a1) : Int) then
 K a2 r3 r4 r5 (Eng.cutL a1 (Int.toNat a0) (Int.toNat (↑(List.length a1) : Int) - Int.toNat a0)) false true
 else
 False)
 else
 False))
 else
 False)
 else
 False))))
def Xoctet_Reader_Take_1 : Toctet_Reader_Take_1 := Yoctet_Reader_Take_1 Xslices_Clone___byte_byte_
def Joctet_Reader_Take_1 (X : Toctet_Reader_Take_1) : Inst := mkI 66 upL10 upH16 upL11 upH12 X
def Ioctet_Reader_Take_1 : Inst := Joctet_Reader_Take_1 Xoctet_Reader_Take_1
theorem Eoctet_Reader_Take_1 (xslices_Clone___byte_byte_ : Tslices_Clone___byte_byte_) : EqF Tryz.prog 46 gives Tryz.f66 [Jslices_Clone___byte_byte_ xslices_Clone___byte_byte_] [] (Joctet_Reader_Take_1 (Yoctet_Reader_Take_1 xslices_Clone___byte_byte_)) := fun x y K => by kernel_rfl
theorem Ioctet_Reader_Take_1_ok : InstOk Tryz.prog G.1 Ioctet_Reader_Take_1 := iok (gives := gives) [] (okCons Islices_Clone___byte_byte__ok okNil) 46 follows Tryz.func66 (by kernel_rfl) (fun x => by kernel_rfl) (Eoctet_Reader_Take_1 Xslices_Clone___byte_byte_)
abbrev Toctet_Reader_Num_1 : Type := Int → (List Eng.V) → Bool → (Int → Bool → (List Eng.V) → Bool → Bool → Prop) → Prop
def Loctet_Reader_Num_1_0 (K : Int → Bool → (List Eng.V) → Bool → Bool → Prop) (a1 : (List Eng.V)) (a2 : Bool) : (uQ13 → Prop) → uQ13 → Prop := fun k11 x12 =>
 (if decide (x12.1.2.2.2.2.1 < x12.1.2.2.2.1) then
 (if 0 ≤ x12.1.2.2.2.2.1 ∧ x12.1.2.2.2.2.1 < (↑(List.length x12.2.2.2.1.1) : Int) then
 (Eng.asInt IntKind.u8 (Eng.getC x12.2.2.2.1.1 (Int.toNat x12.1.2.2.2.2.1) (0 : Nat)) False fun n13 =>
 (if (x12.1.2.2.2.2.1 == 0) then
 (if (x12.1.1 == 4) then
 k11 ((x12.1.1, w64 (IntKind.wrap IntKind.i8 n13), (), x12.1.2.2.2.1, w64 (x12.1.2.2.2.2.1 + 1), ()), ((), x12.2.1.2), x12.2.2)
 else
 (lt (w64 (↑(BitVec.toNat (BitVec.ofInt (64 : Nat) (w64 (x12.1.2.1 * 256)) ||| BitVec.ofInt (64 : Nat) (w64 n13))) : Int)) fun v14 =>
 k11 ((x12.1.1, v14, (), x12.1.2.2.2.1, w64 (x12.1.2.2.2.2.1 + 1), ()), ((), x12.2.1.2), x12.2.2)))
 else
 (lt (w64 (↑(BitVec.toNat (BitVec.ofInt (64 : Nat) (w64 (x12.1.2.1 * 256)) ||| BitVec.ofInt (64 : Nat) (w64 n13))) : Int)) fun v15 =>
 k11 ((x12.1.1, v15, (), x12.1.2.2.2.1, w64 (x12.1.2.2.2.2.1 + 1), ()), ((), x12.2.1.2), x12.2.2))))
 else
 False)
 else
 K x12.1.2.1 x12.2.1.2.1 x12.2.2.1.1 x12.2.2.1.2.1 x12.2.2.1.2.2)
def Loctet_Reader_Num_1_0p : Lp := ⟨28690, [.trim 28690], upT14, upH15, 0⟩
def Yoctet_Reader_Num_1 (xoctet_may : Toctet_may) (xoctet_Reader_Take_1 : Toctet_Reader_Take_1) (a0 : Int) (a1 : (List Eng.V)) (a2 : Bool) (K : Int → Bool → (List Eng.V) → Bool → Bool → Prop) : Prop :=
 xoctet_may 0 a0 (fun r3 =>
 (if (!r3) then
 xoctet_Reader_Take_1 (-1) a1 a2 (fun r4 r5 r6 r7 r8 r9 r10 =>
 lp (Loctet_Reader_Num_1_0 K a1 a2) (((-1), 0, (), (↑(List.length r5) : Int), 0, ()), ((), r4, ()), (r8, r9, r10), (r5, r6, r7), ()))
 else
 xoctet_Reader_Take_1 a0 a1 a2 (fun r16 r17 r18 r19 r20 r21 r22 =>
 lp (Loctet_Reader_Num_1_0 K a1 a2) ((a0, 0, (), (↑(List.length r17) : Int), 0, ()), ((), r16, ()), (r20, r21, r22), (r17, r18, r19), ()))))
def Xoctet_Reader_Num_1 : Toctet_Reader_Num_1 := Yoctet_Reader_Num_1 Xoctet_may Xoctet_Reader_Take_1
def Joctet_Reader_Num_1 (X : Toctet_Reader_Num_1) : Inst := mkI 64 upL10 upH16 upL2 upH7 X
def Ioctet_Reader_Num_1 : Inst := Joctet_Reader_Num_1 Xoctet_Reader_Num_1
theorem Eoctet_Reader_Num_1 (xoctet_may : Toctet_may) (xoctet_Reader_Take_1 : Toctet_Reader_Take_1) : EqF Tryz.prog 35 gives Tryz.f64 [Joctet_may xoctet_may, Joctet_Reader_Take_1 xoctet_Reader_Take_1] [Loctet_Reader_Num_1_0p] (Joctet_Reader_Num_1 (Yoctet_Reader_Num_1 xoctet_may xoctet_Reader_Take_1)) := fun x y K => by kernel_rfl
theorem Ioctet_Reader_Num_1_ok : InstOk Tryz.prog G.1 Ioctet_Reader_Num_1 := iok (gives := gives) [Loctet_Reader_Num_1_0p] (okCons Ioctet_may_ok (okCons Ioctet_Reader_Take_1_ok okNil)) 35 follows Tryz.func64 (by kernel_rfl) (fun x => by kernel_rfl) (Eoctet_Reader_Num_1 Xoctet_may Xoctet_Reader_Take_1)
abbrev Tabbr_At : Type := ByteArray → Int → (ByteArray → Bool → Prop) → Prop
def Yabbr_At (xstrings_Cut : Tstrings_Cut) (xabbr_Right : Tabbr_Right) (a0 : ByteArray) (a1 : Int) (K : ByteArray → Bool → Prop) : Prop :=
 (if decide (a1 < 0) then
 K (ByteArray.mk #[]) false
 else
 (if decide (a1 ≥ (↑(ByteArray.size a0) : Int)) then
 K (ByteArray.mk #[]) false
 else
 (if 0 ≤ (↑(ByteArray.size a0) : Int) ∧ (↑(ByteArray.size a0) : Int) ≤ (↑(ByteArray.size a0) : Int) then
 (if 0 ≤ a1 ∧ a1 ≤ (↑(ByteArray.size a0) : Int) then
 xstrings_Cut (ByteArray.extract a0 (Int.toNat a1) (Int.toNat (↑(ByteArray.size a0) : Int))) (ByteArray.mk #[(0 : UInt8)]) (fun r2 r3 r4 =>
 (if (!r4) then
 K (ByteArray.mk #[]) false
 else
 xabbr_Right r2 (fun r5 =>
 (if (!r5) then
 K (ByteArray.mk #[]) false
 else
 K r2 true))))
 else
 False)
 else
 False)))
def Xabbr_At : Tabbr_At := Yabbr_At Xstrings_Cut Xabbr_Right
def Jabbr_At (X : Tabbr_At) : Inst := mkI 67 upL22 .nil upL23 .nil X
def Iabbr_At : Inst := Jabbr_At Xabbr_At
theorem Eabbr_At (xstrings_Cut : Tstrings_Cut) (xabbr_Right : Tabbr_Right) : EqF Tryz.prog 33 gives Tryz.f67 [Jstrings_Cut xstrings_Cut, Jabbr_Right xabbr_Right] [] (Jabbr_At (Yabbr_At xstrings_Cut xabbr_Right)) := fun x y K => by kernel_rfl
theorem Iabbr_At_ok : InstOk Tryz.prog G.1 Iabbr_At := iok (gives := gives) [] (okCons Istrings_Cut_ok (okCons Iabbr_Right_ok okNil)) 33 follows Tryz.func67 (by kernel_rfl) (fun x => by kernel_rfl) (Eabbr_At Xstrings_Cut Xabbr_Right)
abbrev Tblock_marked_1 : Type := Int → (Bool → Prop) → Prop
def Yblock_marked_1 (a0 : Int) (K : Bool → Prop) : Prop :=
 K (decide (a0 > 1))
def Xblock_marked_1 : Tblock_marked_1 := Yblock_marked_1
def Jblock_marked_1 (X : Tblock_marked_1) : Inst := mkI 128 upL24 .nil upL9 .nil X
def Iblock_marked_1 : Inst := Jblock_marked_1 Xblock_marked_1
theorem Eblock_marked_1 : EqF Tryz.prog 5 gives Tryz.f128 [] [] (Jblock_marked_1 (Yblock_marked_1)) := fun x y K => by kernel_rfl
theorem Iblock_marked_1_ok : InstOk Tryz.prog G.1 Iblock_marked_1 := iok (gives := gives) [] okNil 5 follows Tryz.func128 (by kernel_rfl) (fun x => by kernel_rfl) (Eblock_marked_1)
abbrev Tslices_IndexFunc___byte_byte_ : Type := (List Eng.V) → (Int → Prop) → Prop
def Lslices_IndexFunc___byte_byte__0 (xblock_marked_1 : Tblock_marked_1) (K : Int → Prop) : (uQ25 → Prop) → uQ25 → Prop := fun k1 x2 =>
 (if decide (x2.1.2.2.2.2.1 < x2.1.2.2.2.1) then
 (if 0 ≤ x2.1.2.2.2.2.1 ∧ x2.1.2.2.2.2.1 < (↑(List.length x2.1.1) : Int) then
 (Eng.asInt IntKind.u8 (Eng.getC x2.1.1 (Int.toNat x2.1.2.2.2.2.1) (0 : Nat)) False fun n3 =>
 xblock_marked_1 n3 (fun r4 =>
 (if r4 then
 K x2.1.2.2.2.2.1
 else
 k1 ((x2.1.1, ((), ()), x2.1.2.2.1, x2.1.2.2.2.1, w64 (x2.1.2.2.2.2.1 + 1), ()), ()))))
 else
 False)
 else
 K (-1))
def Lslices_IndexFunc___byte_byte__0p : Lp := ⟨403, [.trim 403], upT26, .nil, 0⟩
def Yslices_IndexFunc___byte_byte_ (xblock_marked_1 : Tblock_marked_1) (a0 : (List Eng.V)) (K : Int → Prop) : Prop :=
 lp (Lslices_IndexFunc___byte_byte__0 xblock_marked_1 K) ((a0, ((), ()), 0, (↑(List.length a0) : Int), 0, ()), ())
def Xslices_IndexFunc___byte_byte_ : Tslices_IndexFunc___byte_byte_ := Yslices_IndexFunc___byte_byte_ Xblock_marked_1
def Jslices_IndexFunc___byte_byte_ (X : Tslices_IndexFunc___byte_byte_) : Inst := mkI 181 upL27 .nil upL2 .nil X
def Islices_IndexFunc___byte_byte_ : Inst := Jslices_IndexFunc___byte_byte_ Xslices_IndexFunc___byte_byte_
theorem Eslices_IndexFunc___byte_byte_ (xblock_marked_1 : Tblock_marked_1) : EqF Tryz.prog 19 gives Tryz.f181 [Jblock_marked_1 xblock_marked_1] [Lslices_IndexFunc___byte_byte__0p] (Jslices_IndexFunc___byte_byte_ (Yslices_IndexFunc___byte_byte_ xblock_marked_1)) := fun x y K => by kernel_rfl
theorem Islices_IndexFunc___byte_byte__ok : InstOk Tryz.prog G.1 Islices_IndexFunc___byte_byte_ := iok (gives := gives) [Lslices_IndexFunc___byte_byte__0p] (okCons Iblock_marked_1_ok okNil) 19 follows Tryz.func181 (by kernel_rfl) (fun x => by kernel_rfl) (Eslices_IndexFunc___byte_byte_ Xblock_marked_1)
abbrev Tslices_ContainsFunc___byte_byte_ : Type := (List Eng.V) → (Bool → Prop) → Prop
def Yslices_ContainsFunc___byte_byte_ (xslices_IndexFunc___byte_byte_ : Tslices_IndexFunc___byte_byte_) (a0 : (List Eng.V)) (K : Bool → Prop) : Prop :=
 xslices_IndexFunc___byte_byte_ a0 (fun r1 =>
 K (decide (r1 ≥ 0)))
def Xslices_ContainsFunc___byte_byte_ : Tslices_ContainsFunc___byte_byte_ := Yslices_ContainsFunc___byte_byte_ Xslices_IndexFunc___byte_byte_
def Jslices_ContainsFunc___byte_byte_ (X : Tslices_ContainsFunc___byte_byte_) : Inst := mkI 129 upL27 .nil upL9 .nil X
def Islices_ContainsFunc___byte_byte_ : Inst := Jslices_ContainsFunc___byte_byte_ Xslices_ContainsFunc___byte_byte_
theorem Eslices_ContainsFunc___byte_byte_ (xslices_IndexFunc___byte_byte_ : Tslices_IndexFunc___byte_byte_) : EqF Tryz.prog 9 gives Tryz.f129 [Jslices_IndexFunc___byte_byte_ xslices_IndexFunc___byte_byte_] [] (Jslices_ContainsFunc___byte_byte_ (Yslices_ContainsFunc___byte_byte_ xslices_IndexFunc___byte_byte_)) := fun x y K => by kernel_rfl
theorem Islices_ContainsFunc___byte_byte__ok : InstOk Tryz.prog G.1 Islices_ContainsFunc___byte_byte_ := iok (gives := gives) [] (okCons Islices_IndexFunc___byte_byte__ok okNil) 9 follows Tryz.func129 (by kernel_rfl) (fun x => by kernel_rfl) (Eslices_ContainsFunc___byte_byte_ Xslices_IndexFunc___byte_byte_)
abbrev Tblock_marked : Type := (List Eng.V) → (List Eng.V) → (Bool → Prop) → Prop
def Lblock_marked_0 (xslices_ContainsFunc___byte_byte_ : Tslices_ContainsFunc___byte_byte_) (K : Bool → Prop) : (uQ28 → Prop) → uQ28 → Prop := fun k2 x3 =>
 (if decide (x3.1.2.2.2.2.2.2.1 < x3.1.2.2.2.2.2.1) then
 (if 0 ≤ x3.1.2.2.2.2.2.2.1 ∧ x3.1.2.2.2.2.2.2.1 < (↑(List.length x3.1.2.2.2.2.1) : Int) then
 (Eng.asInt IntKind.u8 (Eng.getC x3.1.2.2.2.2.1 (Int.toNat x3.1.2.2.2.2.2.2.1) (0 : Nat)) False fun n4 =>
 (if (n4 == 1) then
 (if decide (x3.1.2.2.2.2.2.2.1 ≥ (↑(List.length x3.1.1) : Int)) then
 K false
 else
 (if 0 ≤ x3.1.2.2.2.2.2.2.1 ∧ x3.1.2.2.2.2.2.2.1 < (↑(List.length x3.1.1) : Int) then
 (Eng.asInt IntKind.u8 (Eng.getC x3.1.1 (Int.toNat x3.1.2.2.2.2.2.2.1) (0 : Nat)) False fun n5 =>
 (if (n5 != 1) then
 K false
 else
 k2 ((x3.1.1, x3.1.2.1, x3.1.2.2.1, ((), ()), x3.1.2.2.2.2.1, x3.1.2.2.2.2.2.1, w64 (x3.1.2.2.2.2.2.2.1 + 1), ()), ())))
 else
 False))
 else
 k2 ((x3.1.1, x3.1.2.1, x3.1.2.2.1, ((), ()), x3.1.2.2.2.2.1, x3.1.2.2.2.2.2.1, w64 (x3.1.2.2.2.2.2.2.1 + 1), ()), ())))
 else
 False)
 else
 xslices_ContainsFunc___byte_byte_ x3.1.1 (fun r6 =>
 (if (!r6) then
 xslices_ContainsFunc___byte_byte_ x3.1.2.1 (fun r7 =>
 K !r7)
 else
 K false)))
def Lblock_marked_0p : Lp := ⟨1843, [.trim 1843], upT29, .nil, 0⟩
def Yblock_marked (xslices_ContainsFunc___byte_byte_ : Tslices_ContainsFunc___byte_byte_) (a0 : (List Eng.V)) (a1 : (List Eng.V)) (K : Bool → Prop) : Prop :=
 lp (Lblock_marked_0 xslices_ContainsFunc___byte_byte_ K) ((a0, a1, false, ((), ()), a1, (↑(List.length a1) : Int), 0, ()), ())
def Xblock_marked : Tblock_marked := Yblock_marked Xslices_ContainsFunc___byte_byte_
def Jblock_marked (X : Tblock_marked) : Inst := mkI 68 upL30 .nil upL9 .nil X
def Iblock_marked : Inst := Jblock_marked Xblock_marked
theorem Eblock_marked (xslices_ContainsFunc___byte_byte_ : Tslices_ContainsFunc___byte_byte_) : EqF Tryz.prog 41 gives Tryz.f68 [Jslices_ContainsFunc___byte_byte_ xslices_ContainsFunc___byte_byte_] [Lblock_marked_0p] (Jblock_marked (Yblock_marked xslices_ContainsFunc___byte_byte_)) := fun x y K => by kernel_rfl
theorem Iblock_marked_ok : InstOk Tryz.prog G.1 Iblock_marked := iok (gives := gives) [Lblock_marked_0p] (okCons Islices_ContainsFunc___byte_byte__ok okNil) 41 follows Tryz.func68 (by kernel_rfl) (fun x => by kernel_rfl) (Eblock_marked Xslices_ContainsFunc___byte_byte_)
abbrev Tblock_types_1 : Type := Int → Bool → (List Eng.V) → Bool → Bool → (Bool → Bool → (List Eng.V) → Bool → Bool → (List Eng.V) → Bool → Bool → (List Eng.V) → Bool → Bool → Prop) → Prop
def Lblock_types_1_0 (xoctet_Reader_Num_1 : Toctet_Reader_Num_1) (xoctet_Reader_Num : Toctet_Reader_Num) (K : Bool → Bool → (List Eng.V) → Bool → Bool → (List Eng.V) → Bool → Bool → (List Eng.V) → Bool → Bool → Prop) (a1 : Bool) (a2 : (List Eng.V)) (a3 : Bool) (a4 : Bool) : (uQ31 → Prop) → uQ31 → Prop := fun k5 x6 =>
 (if decide (x6.1.2.2.2.2.2.1 < x6.1.2.2.2.2.1) then
 xoctet_Reader_Num_1 4 x6.2.1.1 x6.2.1.2.1 (fun r7 r8 r9 r10 r11 =>
 xoctet_Reader_Num 1 r8 r9 r10 r11 (fun r12 r13 r14 r15 r16 =>
 (if Eng.roomOk (List.length x6.2.2.2.1 + List.length [Eng.V.agg [Eng.V.c (Value.int IntKind.i64 r7), Eng.V.c (Value.bool (r12 == 1)), Eng.V.c (Value.string (ByteArray.mk #[]))]]) (32 : Nat) then
 (lt (x6.2.2.2.1 ++ [Eng.V.agg [Eng.V.c (Value.int IntKind.i64 r7), Eng.V.c (Value.bool (r12 == 1)), Eng.V.c (Value.string (ByteArray.mk #[]))]]) fun v17 =>
 xoctet_Reader_Num 1 r13 r14 r15 r16 (fun r18 r19 r20 r21 r22 =>
 (if Eng.roomOk (List.length x6.2.2.2.2.1 + List.length [Eng.V.c (Value.int IntKind.i64 r18)]) (8 : Nat) then
 (if x6.1.2.2.2.1 then
 k5 (((), (), (), decide (r12 < 2), x6.1.2.2.2.2.1, w64 (x6.1.2.2.2.2.2.1 + 1), ()), (r20, r19, ()), (x6.2.2.1.1, x6.2.2.1.2.1, true), v17, x6.2.2.2.2.1 ++ [Eng.V.c (Value.int IntKind.i64 r18)], ())
 else
 k5 (((), (), (), false, x6.1.2.2.2.2.1, w64 (x6.1.2.2.2.2.2.1 + 1), ()), (r20, r19, ()), (x6.2.2.1.1, x6.2.2.1.2.1, true), v17, x6.2.2.2.2.1 ++ [Eng.V.c (Value.int IntKind.i64 r18)], ()))
 else
 False)))
 else
 False)))
 else
 K x6.1.2.2.2.1 x6.2.1.2.1 x6.2.2.2.1 true false x6.2.2.2.2.1 true false x6.2.1.1 false true)
def Lblock_types_1_0p : Lp := ⟨1649, [.trim 1649, .thin 1, .trim 1649, .thin 480, .trim 1649, .fat 4 3 672, .trim 1649, .fat 5 1 688, .trim 1649], upT18, upH32, 0⟩
def Yblock_types_1 (xoctet_Reader_Num_1 : Toctet_Reader_Num_1) (xoctet_Reader_Num : Toctet_Reader_Num) (a0 : Int) (a1 : Bool) (a2 : (List Eng.V)) (a3 : Bool) (a4 : Bool) (K : Bool → Bool → (List Eng.V) → Bool → Bool → (List Eng.V) → Bool → Bool → (List Eng.V) → Bool → Bool → Prop) : Prop :=
 lp (Lblock_types_1_0 xoctet_Reader_Num_1 xoctet_Reader_Num K a1 a2 a3 a4) (((), (), (), true, a0, 0, ()), (a2, a1, ()), (a2, a3, true), [], [], ())
def Xblock_types_1 : Tblock_types_1 := Yblock_types_1 Xoctet_Reader_Num_1 Xoctet_Reader_Num
def Jblock_types_1 (X : Tblock_types_1) : Inst := mkI 65 upL10 upH7 upL20 upH21 X
def Iblock_types_1 : Inst := Jblock_types_1 Xblock_types_1
theorem Eblock_types_1 (xoctet_Reader_Num_1 : Toctet_Reader_Num_1) (xoctet_Reader_Num : Toctet_Reader_Num) : EqF Tryz.prog 38 gives Tryz.f65 [Joctet_Reader_Num_1 xoctet_Reader_Num_1, Joctet_Reader_Num xoctet_Reader_Num] [Lblock_types_1_0p] (Jblock_types_1 (Yblock_types_1 xoctet_Reader_Num_1 xoctet_Reader_Num)) := fun x y K => by kernel_rfl
theorem Iblock_types_1_ok : InstOk Tryz.prog G.1 Iblock_types_1 := iok (gives := gives) [Lblock_types_1_0p] (okCons Ioctet_Reader_Num_1_ok (okCons Ioctet_Reader_Num_ok okNil)) 38 follows Tryz.func65 (by kernel_rfl) (fun x => by kernel_rfl) (Eblock_types_1 Xoctet_Reader_Num_1 Xoctet_Reader_Num)
abbrev Tblock_Decode : Type := uQ0 → (List Eng.V) → Int → (uQ33 → Bool → (List Eng.V) → Bool → Bool → (List Eng.V) → Bool → Bool → (List Eng.V) → Bool → Bool → Prop) → Prop
def Lblock_Decode_11 (xoctet_Reader_Num : Toctet_Reader_Num) (xoctet_Reader_Take : Toctet_Reader_Take) (xblock_marked : Tblock_marked) (K : uQ33 → Bool → (List Eng.V) → Bool → Bool → (List Eng.V) → Bool → Bool → (List Eng.V) → Bool → Bool → Prop) (k136 : uQ34 → Prop) (k143 : uQ34 → Prop) (k168 : uQ35 → Prop) : (uQ36 → Prop) → uQ36 → Prop := fun k173 x174 =>
 (if decide (x174.1.2.2.2.2.2.2.2.2.1 < x174.1.2.2.2.2.2.2.2.1) then
 xoctet_Reader_Num x174.1.1 x174.2.2.2.2.1.2.1 x174.2.2.2.2.2.2.2.1.1 x174.2.2.2.2.2.2.2.1.2.1 x174.2.2.2.2.2.2.2.1.2.2 (fun r175 r176 r177 r178 r179 =>
 xoctet_Reader_Num 4 r176 r177 r178 r179 (fun r180 r181 r182 r183 r184 =>
 (if Eng.roomOk (List.length x174.2.2.2.2.2.2.2.2.1 + List.length [Eng.V.agg [Eng.V.c (Value.int IntKind.i64 r175), Eng.V.c (Value.int IntKind.i64 r180)]]) (16 : Nat) then
 k173 ((x174.1.1, (), (), x174.1.2.2.2.1, (), (), x174.1.2.2.2.2.2.2.1, x174.1.2.2.2.2.2.2.2.1, w64 (x174.1.2.2.2.2.2.2.2.2.1 + 1), ()), x174.2.1, x174.2.2.1, ((), (), (), x174.2.2.2.1.2.2.2), ((), r181, ()), x174.2.2.2.2.2.1, x174.2.2.2.2.2.2.1, (r182, r183, r184), x174.2.2.2.2.2.2.2.2.1 ++ [Eng.V.agg [Eng.V.c (Value.int IntKind.i64 r175), Eng.V.c (Value.int IntKind.i64 r180)]], ())
 else
 False)))
 else
 xoctet_Reader_Take x174.2.1.2.2.1 x174.2.2.2.2.1.2.1 x174.2.2.2.2.2.2.2.1.1 x174.2.2.2.2.2.2.2.1.2.1 x174.2.2.2.2.2.2.2.1.2.2 (fun r185 r186 r187 r188 r189 r190 r191 =>
 xoctet_Reader_Take x174.2.1.2.1 r185 r189 r190 r191 (fun r192 r193 r194 r195 r196 r197 r198 =>
 xblock_marked r186 r193 (fun r199 =>
 (if (!r199) then
 K ((), (), (), ByteArray.mk #[], 0, ()) false [] true true [] true true [] true true
 else
 (if (!x174.1.2.2.2.2.2.2.1) then
 K ((), (), (), ByteArray.mk #[], 0, ()) false [] true true [] true true [] true true
 else
 K ((), (), (), x174.2.2.2.1.2.2.2) true x174.2.2.2.2.2.2.1.1 x174.2.2.2.2.2.2.1.2.1 x174.2.2.2.2.2.2.1.2.2 x174.2.2.2.2.2.1 true false x174.2.2.2.2.2.2.2.2.1 true false))))))
def Lblock_Decode_11p : Lp := ⟨1947111321950560360698936123492044, [.trim 1947111321950560360698936123492044, .trim 1947111321950560360698936123492044, .trim 1947111321950560360698936123492044, .trim 1947111321950560360698936123492044, .ren 1936 1360, .fatC 224 2 2 2672, .trim 1947111321950560360698936123492044], upT37, upH38, 0⟩
def Lblock_Decode_10 (xabbr_At : Tabbr_At) (xoctet_Reader_Num : Toctet_Reader_Num) (xoctet_Reader_Take : Toctet_Reader_Take) (xblock_marked : Tblock_marked) (K : uQ33 → Bool → (List Eng.V) → Bool → Bool → (List Eng.V) → Bool → Bool → (List Eng.V) → Bool → Bool → Prop) (k136 : uQ34 → Prop) (k143 : uQ34 → Prop) : (uQ35 → Prop) → uQ35 → Prop := fun k168 x169 =>
 (if decide (x169.1.2.2.2.2.2.2.2.2.2.2.2.1 < x169.1.2.2.2.2.2.2.2.2.2.2.1) then
 (if 0 ≤ x169.1.2.2.2.2.2.2.2.2.2.2.2.1 ∧ x169.1.2.2.2.2.2.2.2.2.2.2.2.1 < (↑(List.length x169.2.2.2.2.2.2.2.1.1) : Int) then
 (Eng.asInt IntKind.i64 (Eng.getC x169.2.2.2.2.2.2.2.1.1 (Int.toNat x169.1.2.2.2.2.2.2.2.2.2.2.2.1) (0 : Nat)) False fun n170 =>
 xabbr_At x169.1.2.2.2.2.2.2.2.2.2.1 n170 (fun r171 r172 =>
 (if 0 ≤ x169.1.2.2.2.2.2.2.2.2.2.2.2.1 ∧ x169.1.2.2.2.2.2.2.2.2.2.2.2.1 < (↑(List.length x169.2.2.2.2.2.2.1.1) : Int) then
 (if x169.2.2.2.2.2.2.1.2.2 = false then
 (if Int.toNat x169.1.2.2.2.2.2.2.2.2.2.2.2.1 < List.length x169.2.2.2.2.2.2.1.1 then
 (if x169.1.2.2.2.2.2.2.2.2.1 then
 k168 ((x169.1.1, (), (), x169.1.2.2.2.1, (), (), (), (), r172, x169.1.2.2.2.2.2.2.2.2.2.1, x169.1.2.2.2.2.2.2.2.2.2.2.1, w64 (x169.1.2.2.2.2.2.2.2.2.2.2.2.1 + 1), ()), x169.2.1, ((), (), (), x169.2.2.1.2.2.2), ((), (), (), x169.2.2.2.1.2.2.2), ((), x169.2.2.2.2.1.2), x169.2.2.2.2.2.1, (List.set x169.2.2.2.2.2.2.1.1 (Int.toNat x169.1.2.2.2.2.2.2.2.2.2.2.2.1) (Eng.setE (List.getD x169.2.2.2.2.2.2.1.1 (Int.toNat x169.1.2.2.2.2.2.2.2.2.2.2.2.1) Eng.V.bad) (2 : Nat) [Eng.V.c (Value.string r171)]), x169.2.2.2.2.2.2.1.2), x169.2.2.2.2.2.2.2)
 else
 k168 ((x169.1.1, (), (), x169.1.2.2.2.1, (), (), (), (), false, x169.1.2.2.2.2.2.2.2.2.2.1, x169.1.2.2.2.2.2.2.2.2.2.2.1, w64 (x169.1.2.2.2.2.2.2.2.2.2.2.2.1 + 1), ()), x169.2.1, ((), (), (), x169.2.2.1.2.2.2), ((), (), (), x169.2.2.2.1.2.2.2), ((), x169.2.2.2.2.1.2), x169.2.2.2.2.2.1, (List.set x169.2.2.2.2.2.2.1.1 (Int.toNat x169.1.2.2.2.2.2.2.2.2.2.2.2.1) (Eng.setE (List.getD x169.2.2.2.2.2.2.1.1 (Int.toNat x169.1.2.2.2.2.2.2.2.2.2.2.2.1) Eng.V.bad) (2 : Nat) [Eng.V.c (Value.string r171)]), x169.2.2.2.2.2.2.1.2), x169.2.2.2.2.2.2.2))
 else
 False)
 else
 False)
 else
 False)))
 else
 False)
 else
 lp (Lblock_Decode_11 xoctet_Reader_Num xoctet_Reader_Take xblock_marked K k136 k143 k168) ((x169.1.1, (), (), x169.1.2.2.2.1, (), (), x169.1.2.2.2.2.2.2.2.2.1, x169.2.1.2.2.2.1, 0, ()), x169.2.1, ([], [], [], x169.2.2.1.2.2.2), ((), (), (), x169.2.2.2.1.2.2.2), ((), x169.2.2.2.2.1.2), x169.2.2.2.2.2.1, x169.2.2.2.2.2.2.1, x169.2.2.2.2.2.2.2.2.1, [], ()))
def Lblock_Decode_10p : Lp := ⟨58028439341502200386021068, [.trim 58028439341502200386021068], upT39, upH40, 0⟩
def Lblock_Decode_9 (xoctet_Reader_Num : Toctet_Reader_Num) (xblock_types_1 : Tblock_types_1) (xoctet_Reader_Take : Toctet_Reader_Take) (xabbr_At : Tabbr_At) (xblock_marked : Tblock_marked) (K : uQ33 → Bool → (List Eng.V) → Bool → Bool → (List Eng.V) → Bool → Bool → (List Eng.V) → Bool → Bool → Prop) (k136 : uQ34 → Prop) : (uQ34 → Prop) → uQ34 → Prop := fun k143 x144 =>
 (if decide (x144.1.2.2.2.2.2.2.2.1 < x144.1.2.2.2.2.2.2.1) then
 xoctet_Reader_Num 1 x144.2.2.2.2.1.2.1 x144.2.2.2.2.2.1.1 x144.2.2.2.2.2.1.2.1 x144.2.2.2.2.2.1.2.2 (fun r145 r146 r147 r148 r149 =>
 (if 0 ≤ x144.1.2.2.2.2.2.2.2.1 ∧ x144.1.2.2.2.2.2.2.2.1 < (↑(List.length x144.2.2.2.2.2.2.1) : Int) then
 (if Int.toNat x144.1.2.2.2.2.2.2.2.1 < List.length x144.2.2.2.2.2.2.1 then
 k143 ((x144.1.1, (), (), x144.1.2.2.2.1, (), (), x144.1.2.2.2.2.2.2.1, w64 (x144.1.2.2.2.2.2.2.2.1 + 1), ()), x144.2.1, ((), (), (), x144.2.2.1.2.2.2), ((), (), (), x144.2.2.2.1.2.2.2), ((), r146, ()), (r147, r148, r149), List.set x144.2.2.2.2.2.2.1 (Int.toNat x144.1.2.2.2.2.2.2.2.1) (Eng.setE (List.getD x144.2.2.2.2.2.2.1 (Int.toNat x144.1.2.2.2.2.2.2.2.1) Eng.V.bad) (1 : Nat) [Eng.V.c (Value.int IntKind.i64 r145)]), ())
 else
 False)
 else
 False))
 else
 xblock_types_1 x144.2.1.2.2.2.2.2.1 x144.2.2.2.2.1.2.1 x144.2.2.2.2.2.1.1 x144.2.2.2.2.2.1.2.1 x144.2.2.2.2.2.1.2.2 (fun r150 r151 r152 r153 r154 r155 r156 r157 r158 r159 r160 =>
 xoctet_Reader_Take x144.2.1.2.2.2.2.2.2.1 r151 r158 r159 r160 (fun r161 r162 r163 r164 r165 r166 r167 =>
 (if Eng.allU8 r162 then
 lp (Lblock_Decode_10 xabbr_At xoctet_Reader_Num xoctet_Reader_Take xblock_marked K k136 k143) ((x144.1.1, (), (), x144.1.2.2.2.1, (), (), (), (), r150, Eng.packB r162, (↑(List.length r152) : Int), 0, ()), x144.2.1, ((), (), (), x144.2.2.1.2.2.2), ((), (), (), x144.2.2.2.1.2.2.2), ((), r161, ()), x144.2.2.2.2.2.2.1, (r152, r153, r154), (r155, r156, r157), (r165, r166, r167), ())
 else
 False))))
def Lblock_Decode_9p : Lp := ⟨864691128455136972, [.trim 864691128455136972, .trim 864691128455136972, .trim 864691128455136972, .ren 1120 609, .trim 864691128455136972], upT41, upH42, 0⟩
def Lblock_Decode_8 (xoctet_Reader_Num : Toctet_Reader_Num) (xblock_types_1 : Tblock_types_1) (xoctet_Reader_Take : Toctet_Reader_Take) (xabbr_At : Tabbr_At) (xblock_marked : Tblock_marked) (K : uQ33 → Bool → (List Eng.V) → Bool → Bool → (List Eng.V) → Bool → Bool → (List Eng.V) → Bool → Bool → Prop) : (uQ34 → Prop) → uQ34 → Prop := fun k136 x137 =>
 (if decide (x137.1.2.2.2.2.2.2.2.1 < x137.1.2.2.2.2.2.2.1) then
 xoctet_Reader_Num x137.1.1 x137.2.2.2.2.1.2.1 x137.2.2.2.2.2.1.1 x137.2.2.2.2.2.1.2.1 x137.2.2.2.2.2.1.2.2 (fun r138 r139 r140 r141 r142 =>
 (if 0 ≤ x137.1.2.2.2.2.2.2.2.1 ∧ x137.1.2.2.2.2.2.2.2.1 < (↑(List.length x137.2.2.2.2.2.2.1) : Int) then
 (if Int.toNat x137.1.2.2.2.2.2.2.2.1 < List.length x137.2.2.2.2.2.2.1 then
 k136 ((x137.1.1, (), (), x137.1.2.2.2.1, (), (), x137.1.2.2.2.2.2.2.1, w64 (x137.1.2.2.2.2.2.2.2.1 + 1), ()), x137.2.1, ((), (), (), x137.2.2.1.2.2.2), ((), (), (), x137.2.2.2.1.2.2.2), ((), r139, ()), (r140, r141, r142), List.set x137.2.2.2.2.2.2.1 (Int.toNat x137.1.2.2.2.2.2.2.2.1) (Eng.setE (List.getD x137.2.2.2.2.2.2.1 (Int.toNat x137.1.2.2.2.2.2.2.2.1) Eng.V.bad) (0 : Nat) [Eng.V.c (Value.int IntKind.i64 r138)]), ())
 else
 False)
 else
 False))
 else
 lp (Lblock_Decode_9 xoctet_Reader_Num xblock_types_1 xoctet_Reader_Take xabbr_At xblock_marked K k136) ((x137.1.1, (), (), x137.1.2.2.2.1, (), (), (↑(List.length x137.2.2.2.2.2.2.1) : Int), 0, ()), x137.2.1, ((), (), (), x137.2.2.1.2.2.2), ((), (), (), x137.2.2.2.1.2.2.2), ((), x137.2.2.2.2.1.2), x137.2.2.2.2.2))
def Lblock_Decode_8p : Lp := ⟨26388279068364, [.trim 26388279068364, .trim 26388279068364, .trim 26388279068364, .ren 896 609, .trim 26388279068364], upT43, upH42, 0⟩
def Yblock_Decode (xhead_Size : Thead_Size) (xoctet_Open : Toctet_Open) (xoctet_Reader_Take : Toctet_Reader_Take) (xabbr_At : Tabbr_At) (xoctet_Reader_Num : Toctet_Reader_Num) (xblock_marked : Tblock_marked) (xblock_types_1 : Tblock_types_1) (a0 : uQ0) (a1 : (List Eng.V)) (a2 : Int) (K : uQ33 → Bool → (List Eng.V) → Bool → Bool → (List Eng.V) → Bool → Bool → (List Eng.V) → Bool → Bool → Prop) : Prop :=
 xhead_Size a0 a2 (fun r3 =>
 (if (r3 == 0) then
 K ((), (), (), ByteArray.mk #[], 0, ()) false [] true true [] true true [] true true
 else
 (if ((↑(List.length a1) : Int) != r3) then
 K ((), (), (), ByteArray.mk #[], 0, ()) false [] true true [] true true [] true true
 else
 xoctet_Open a1 (fun r4 r5 r6 r7 =>
 (
 (if 0 ≤ a0.2.2.2.2.1 ∧ a0.2.2.2.2.1 ≤ a0.2.2.2.2.1 ∧ a0.2.2.2.2.1 ≤ 4294967296 then
 (
 lp (Lblock_Decode_8 xoctet_Reader_Num xblock_types_1 xoctet_Reader_Take xabbr_At xblock_marked K) ((a2, (), (), false, (), (), (↑(List.length (List.replicate (Int.toNat a0.2.2.2.2.1) (Eng.ofVal (Value.agg #[Value.int IntKind.i64 0, Value.int IntKind.i64 0])))) : Int), 0, ()), a0, ((), (), (), ByteArray.mk #[], 0, ()), ((), (), (), ByteArray.mk #[], a0.1, ()), ((), r4, ()), (r5, r6, r7), List.replicate (Int.toNat a0.2.2.2.2.1) (Eng.ofVal (Value.agg #[Value.int IntKind.i64 0, Value.int IntKind.i64 0])), ())
 ∧
 lp (Lblock_Decode_8 xoctet_Reader_Num xblock_types_1 xoctet_Reader_Take xabbr_At xblock_marked K) ((a2, (), (), false, (), (), (↑(List.length (List.replicate (Int.toNat a0.2.2.2.2.1) (Eng.ofVal (Value.agg #[Value.int IntKind.i64 0, Value.int IntKind.i64 0])))) : Int), 0, ()), a0, ((), (), (), ByteArray.mk #[], 0, ()), ((), (), (), ByteArray.mk #[], a0.1, ()), ((), r4, ()), (r5, r6, r7), List.replicate (Int.toNat a0.2.2.2.2.1) (Eng.ofVal (Value.agg #[Value.int IntKind.i64 0, Value.int IntKind.i64 0])), ()))
 else
 False)
 ∧
 (if 0 ≤ a0.2.2.2.2.1 ∧ a0.2.2.2.2.1 ≤ a0.2.2.2.2.1 ∧ a0.2.2.2.2.1 ≤ 4294967296 then
 lp (Lblock_Decode_8 xoctet_Reader_Num xblock_types_1 xoctet_Reader_Take xabbr_At xblock_marked K) ((a2, (), (), false, (), (), (↑(List.length (List.replicate (Int.toNat a0.2.2.2.2.1) (Eng.ofVal (Value.agg #[Value.int IntKind.i64 0, Value.int IntKind.i64 0])))) : Int), 0, ()), a0, ((), (), (), ByteArray.mk #[], 0, ()), ((), (), (), ByteArray.mk #[], a0.1, ()), ((), r4, ()), (r5, r6, r7), List.replicate (Int.toNat a0.2.2.2.2.1) (Eng.ofVal (Value.agg #[Value.int IntKind.i64 0, Value.int IntKind.i64 0])), ())
 else
 False))))))
def Xblock_Decode : Tblock_Decode := Yblock_Decode Xhead_Size Xoctet_Open Xoctet_Reader_Take Xabbr_At Xoctet_Reader_Num Xblock_marked Xblock_types_1
def Jblock_Decode (X : Tblock_Decode) : Inst := mkI 22 upL44 .nil upL45 upH46 X
def Iblock_Decode : Inst := Jblock_Decode Xblock_Decode
theorem Eblock_Decode (xhead_Size : Thead_Size) (xoctet_Open : Toctet_Open) (xoctet_Reader_Take : Toctet_Reader_Take) (xabbr_At : Tabbr_At) (xoctet_Reader_Num : Toctet_Reader_Num) (xblock_marked : Tblock_marked) (xblock_types_1 : Tblock_types_1) : EqF Tryz.prog 143 gives Tryz.f22 [Jhead_Size xhead_Size, Joctet_Open xoctet_Open, Joctet_Reader_Take xoctet_Reader_Take, Jabbr_At xabbr_At, Joctet_Reader_Num xoctet_Reader_Num, Jblock_marked xblock_marked, Jblock_types_1 xblock_types_1] [Lblock_Decode_8p, Lblock_Decode_9p, Lblock_Decode_10p, Lblock_Decode_11p] (Jblock_Decode (Yblock_Decode xhead_Size xoctet_Open xoctet_Reader_Take xabbr_At xoctet_Reader_Num xblock_marked xblock_types_1)) := fun x y K => by kernel_rfl
theorem Iblock_Decode_ok : InstOk Tryz.prog G.1 Iblock_Decode := iok (gives := gives) [Lblock_Decode_8p, Lblock_Decode_9p, Lblock_Decode_10p, Lblock_Decode_11p] (okCons Ihead_Size_ok (okCons Ioctet_Open_ok (okCons Ioctet_Reader_Take_ok (okCons Iabbr_At_ok (okCons Ioctet_Reader_Num_ok (okCons Iblock_marked_ok (okCons Iblock_types_1_ok okNil))))))) 143 follows Tryz.func22 (by kernel_rfl) (fun x => by kernel_rfl) (Eblock_Decode Xhead_Size Xoctet_Open Xoctet_Reader_Take Xabbr_At Xoctet_Reader_Num Xblock_marked Xblock_types_1)
abbrev Toctet_Put : Type := (List Eng.V) → Int → Int → (Bool → (List Eng.V) → Bool → Bool → Prop) → Prop
def Loctet_Put_0 (K : Bool → (List Eng.V) → Bool → Bool → Prop) : (uQ47 → Prop) → uQ47 → Prop := fun k7 x8 =>
 (if decide (x8.1.2.2.2.2.1 > 0) then
 (lt (w64 (8 * w64 (x8.1.2.2.2.2.1 - 1))) fun v9 =>
 (if v9 < 0 then
 False
 else
 (if x8.2.1.2.1 then
 (if Eng.roomOk (List.length x8.2.1.1 + List.length [Eng.V.c (Value.int IntKind.u8 (wu8 (Int.fdiv x8.1.1 (2 ^ Min.min (Int.toNat v9) (64 : Nat)))))]) (1 : Nat) then
 k7 ((x8.1.1, (), x8.1.2.2.1, (), w64 (x8.1.2.2.2.2.1 - 1), ()), (x8.2.1.1 ++ [Eng.V.c (Value.int IntKind.u8 (wu8 (Int.fdiv x8.1.1 (2 ^ Min.min (Int.toNat v9) (64 : Nat)))))], x8.2.1.2), ())
 else
 False)
 else
 False)))
 else
 K true x8.2.1.1 x8.2.1.2.1 x8.2.1.2.2)
def Loctet_Put_0p : Lp := ⟨962, [.trim 962], upT48, upH49, 0⟩
def Yoctet_Put (xslices_Clone___byte_byte_ : Tslices_Clone___byte_byte_) (xoctet_may : Toctet_may) (a0 : (List Eng.V)) (a1 : Int) (a2 : Int) (K : Bool → (List Eng.V) → Bool → Bool → Prop) : Prop :=
 xslices_Clone___byte_byte_ a0 (fun r3 r4 r5 =>
 xoctet_may a1 a2 (fun r6 =>
 (if (!r6) then
 K false r3 r4 r5
 else
 lp (Loctet_Put_0 K) ((a1, (), false, (), a2, ()), (r3, r4, r5), ()))))
def Xoctet_Put : Toctet_Put := Yoctet_Put Xslices_Clone___byte_byte_ Xoctet_may
def Joctet_Put (X : Toctet_Put) : Inst := mkI 98 upL50 .nil upL51 upH5 X
def Ioctet_Put : Inst := Joctet_Put Xoctet_Put
theorem Eoctet_Put (xslices_Clone___byte_byte_ : Tslices_Clone___byte_byte_) (xoctet_may : Toctet_may) : EqF Tryz.prog 32 gives Tryz.f98 [Jslices_Clone___byte_byte_ xslices_Clone___byte_byte_, Joctet_may xoctet_may] [Loctet_Put_0p] (Joctet_Put (Yoctet_Put xslices_Clone___byte_byte_ xoctet_may)) := fun x y K => by kernel_rfl
theorem Ioctet_Put_ok : InstOk Tryz.prog G.1 Ioctet_Put := iok (gives := gives) [Loctet_Put_0p] (okCons Islices_Clone___byte_byte__ok (okCons Ioctet_may_ok okNil)) 32 follows Tryz.func98 (by kernel_rfl) (fun x => by kernel_rfl) (Eoctet_Put Xslices_Clone___byte_byte_ Xoctet_may)
abbrev Tblock_writer_put_1 : Type := Int → Int → Bool → (List Eng.V) → Bool → Bool → (Bool → (List Eng.V) → Bool → Bool → Prop) → Prop
def Yblock_writer_put_1 (xoctet_Put : Toctet_Put) (a0 : Int) (a1 : Int) (a2 : Bool) (a3 : (List Eng.V)) (a4 : Bool) (a5 : Bool) (K : Bool → (List Eng.V) → Bool → Bool → Prop) : Prop :=
 xoctet_Put [] a0 a1 (fun r6 r7 r8 r9 =>
 (if a4 then
 (if Eng.roomOk (List.length a3 + List.length r7) (1 : Nat) then
 (if a2 then
 K true (a3 ++ r7) a4 a5
 else
 K (!r6) (a3 ++ r7) a4 a5)
 else
 False)
 else
 False))
def Xblock_writer_put_1 : Tblock_writer_put_1 := Yblock_writer_put_1 Xoctet_Put
def Jblock_writer_put_1 (X : Tblock_writer_put_1) : Inst := mkI 60 upL56 upH7 .nil upH7 X
def Iblock_writer_put_1 : Inst := Jblock_writer_put_1 Xblock_writer_put_1
theorem Eblock_writer_put_1 (xoctet_Put : Toctet_Put) : EqF Tryz.prog 34 gives Tryz.f60 [Joctet_Put xoctet_Put] [] (Jblock_writer_put_1 (Yblock_writer_put_1 xoctet_Put)) := fun x y K => by kernel_rfl
theorem Iblock_writer_put_1_ok : InstOk Tryz.prog G.1 Iblock_writer_put_1 := iok (gives := gives) [] (okCons Ioctet_Put_ok okNil) 34 follows Tryz.func60 (by kernel_rfl) (fun x => by kernel_rfl) (Eblock_writer_put_1 Xoctet_Put)
abbrev Tblock_mark : Type := Bool → (Int → Prop) → Prop
def Yblock_mark (a0 : Bool) (K : Int → Prop) : Prop :=
 (if a0 then
 K 1
 else
 K 0)
def Xblock_mark : Tblock_mark := Yblock_mark
def Jblock_mark (X : Tblock_mark) : Inst := mkI 61 upL9 .nil upL2 .nil X
def Iblock_mark : Inst := Jblock_mark Xblock_mark
theorem Eblock_mark : EqF Tryz.prog 4 gives Tryz.f61 [] [] (Jblock_mark (Yblock_mark)) := fun x y K => by kernel_rfl
theorem Iblock_mark_ok : InstOk Tryz.prog G.1 Iblock_mark := iok (gives := gives) [] okNil 4 follows Tryz.func61 (by kernel_rfl) (fun x => by kernel_rfl) (Eblock_mark)
abbrev Tblock_Encode : Type := uQ58 → Int → (Bool → (List Eng.V) → Bool → Bool → Prop) → Prop
def Lblock_Encode_3 (xblock_writer_put_1 : Tblock_writer_put_1) (K : Bool → (List Eng.V) → Bool → Bool → Prop) (k9 : uQ59 → Prop) (k17 : uQ59 → Prop) (k25 : uQ59 → Prop) : (uQ60 → Prop) → uQ60 → Prop := fun k44 x45 =>
 (if decide (x45.1.2.2.2.2.2.2.1 < x45.1.2.2.2.2.2.1) then
 (if 0 ≤ x45.1.2.2.2.2.2.2.1 ∧ x45.1.2.2.2.2.2.2.1 < (↑(List.length x45.1.2.2.2.2.1) : Int) then
 (Eng.asInt IntKind.i64 (Eng.getC x45.1.2.2.2.2.1 (Int.toNat x45.1.2.2.2.2.2.2.1) (0 : Nat)) False fun n46 =>
 (Eng.asInt IntKind.i64 (Eng.getC x45.1.2.2.2.2.1 (Int.toNat x45.1.2.2.2.2.2.2.1) (1 : Nat)) False fun n47 =>
 xblock_writer_put_1 n46 x45.1.1 x45.2.1.2.1 x45.2.2.1.1 x45.2.2.1.2.1 x45.2.2.1.2.2 (fun r48 r49 r50 r51 =>
 xblock_writer_put_1 n47 4 r48 r49 r50 r51 (fun r52 r53 r54 r55 =>
 k44 ((x45.1.1, (), x45.1.2.2.1, (), x45.1.2.2.2.2.1, x45.1.2.2.2.2.2.1, w64 (x45.1.2.2.2.2.2.2.1 + 1), ()), ((), r52, ()), (r53, r54, r55), ())))))
 else
 False)
 else
 (if x45.2.1.2.1 then
 K false [] true true
 else
 K true x45.2.2.1.1 x45.2.2.1.2.1 x45.2.2.1.2.2))
def Lblock_Encode_3p : Lp := ⟨17331160549995323848587741234, [.trim 17331160549995323848587741234, .trim 17331160549995323848587741234, .trim 17331160549995323848587741234, .ren 1712 2128, .trim 17331160549995323848587741234], upT61, upH62, 0⟩
def Lblock_Encode_2 (xblock_writer_put_1 : Tblock_writer_put_1) (xblock_mark : Tblock_mark) (K : Bool → (List Eng.V) → Bool → Bool → Prop) (k9 : uQ59 → Prop) (k17 : uQ59 → Prop) : (uQ59 → Prop) → uQ59 → Prop := fun k25 x26 =>
 (if decide (x26.1.2.2.2.2.2.2.2.2.2.1 < x26.1.2.2.2.2.2.2.2.2.1) then
 (if 0 ≤ x26.1.2.2.2.2.2.2.2.2.2.1 ∧ x26.1.2.2.2.2.2.2.2.2.2.1 < (↑(List.length x26.1.2.2.2.2.2.2.2.1) : Int) then
 (Eng.asInt IntKind.i64 (Eng.getC x26.1.2.2.2.2.2.2.2.1 (Int.toNat x26.1.2.2.2.2.2.2.2.2.2.1) (0 : Nat)) False fun n27 =>
 (Eng.asBool (Eng.getC x26.1.2.2.2.2.2.2.2.1 (Int.toNat x26.1.2.2.2.2.2.2.2.2.2.1) (1 : Nat)) False fun b28 =>
 (Eng.asStr (Eng.getC x26.1.2.2.2.2.2.2.2.1 (Int.toNat x26.1.2.2.2.2.2.2.2.2.2.1) (2 : Nat)) False fun t29 =>
 xblock_writer_put_1 n27 4 x26.2.2.1.2.1 x26.2.2.2.2.1.1 x26.2.2.2.2.1.2.1 x26.2.2.2.2.1.2.2 (fun r30 r31 r32 r33 =>
 xblock_mark b28 (fun r34 =>
 xblock_writer_put_1 r34 1 r30 r31 r32 r33 (fun r35 r36 r37 r38 =>
 (if 0 ≤ x26.1.2.2.2.2.2.2.2.2.2.1 ∧ x26.1.2.2.2.2.2.2.2.2.2.1 < (↑(List.length x26.2.2.2.1.1) : Int) then
 (Eng.asInt IntKind.i64 (Eng.getC x26.2.2.2.1.1 (Int.toNat x26.1.2.2.2.2.2.2.2.2.2.1) (0 : Nat)) False fun n39 =>
 xblock_writer_put_1 n39 1 r35 r36 r37 r38 (fun r40 r41 r42 r43 =>
 k25 ((x26.1.1, (), (), x26.1.2.2.2.1, x26.1.2.2.2.2.1, (), (), x26.1.2.2.2.2.2.2.2.1, x26.1.2.2.2.2.2.2.2.2.1, w64 (x26.1.2.2.2.2.2.2.2.2.2.1 + 1), ()), x26.2.1, ((), r40, ()), x26.2.2.2.1, (r41, r42, r43), ())))
 else
 False)))))))
 else
 False)
 else
 (if x26.2.2.2.2.1.2.1 then
 (if Eng.roomOk (List.length x26.2.2.2.2.1.1 + List.length (Eng.bytesV x26.1.2.2.2.2.1)) (1 : Nat) then
 lp (Lblock_Encode_3 xblock_writer_put_1 K k9 k17 k25) ((x26.1.1, (), x26.1.2.2.2.1, (), x26.2.1.2.2.1, (↑(List.length x26.2.1.2.2.1) : Int), 0, ()), ((), x26.2.2.1.2), (x26.2.2.2.2.1.1 ++ Eng.bytesV x26.1.2.2.2.2.1, x26.2.2.2.2.1.2), ())
 else
 False)
 else
 False))
def Lblock_Encode_2p : Lp := ⟨258254417031933725494, [.trim 258254417031933725494, .trim 258254417031933725494, .trim 258254417031933725494, .ren 1392 2128, .trim 258254417031933725494], upT63, upH64, 0⟩
def Lblock_Encode_1 (xblock_writer_put_1 : Tblock_writer_put_1) (xblock_mark : Tblock_mark) (K : Bool → (List Eng.V) → Bool → Bool → Prop) (k9 : uQ59 → Prop) : (uQ59 → Prop) → uQ59 → Prop := fun k17 x18 =>
 (if decide (x18.1.2.2.2.2.2.2.2.2.2.1 < x18.1.2.2.2.2.2.2.2.2.1) then
 (if 0 ≤ x18.1.2.2.2.2.2.2.2.2.2.1 ∧ x18.1.2.2.2.2.2.2.2.2.2.1 < (↑(List.length x18.1.2.2.2.2.2.2.2.1) : Int) then
 (Eng.asInt IntKind.i64 (Eng.getC x18.1.2.2.2.2.2.2.2.1 (Int.toNat x18.1.2.2.2.2.2.2.2.2.2.1) (0 : Nat)) False fun n19 =>
 (Eng.asInt IntKind.i64 (Eng.getC x18.1.2.2.2.2.2.2.2.1 (Int.toNat x18.1.2.2.2.2.2.2.2.2.2.1) (1 : Nat)) False fun n20 =>
 xblock_writer_put_1 n20 1 x18.2.2.1.2.1 x18.2.2.2.2.1.1 x18.2.2.2.2.1.2.1 x18.2.2.2.2.1.2.2 (fun r21 r22 r23 r24 =>
 k17 ((x18.1.1, (), (), x18.1.2.2.2.1, x18.1.2.2.2.2.1, (), (), x18.1.2.2.2.2.2.2.2.1, x18.1.2.2.2.2.2.2.2.2.1, w64 (x18.1.2.2.2.2.2.2.2.2.2.1 + 1), ()), x18.2.1, ((), r21, ()), x18.2.2.2.1, (r22, r23, r24), ()))))
 else
 False)
 else
 lp (Lblock_Encode_2 xblock_writer_put_1 xblock_mark K k9 k17) ((x18.1.1, (), (), x18.1.2.2.2.1, x18.1.2.2.2.2.1, (), (), x18.2.1.1, (↑(List.length x18.2.1.1) : Int), 0, ()), x18.2.1, ((), x18.2.2.1.2), x18.2.2.2))
def Lblock_Encode_1p : Lp := ⟨126100789566376758, [.trim 126100789566376758, .trim 126100789566376758, .trim 126100789566376758, .ren 1056 2128, .trim 126100789566376758], upT65, upH64, 0⟩
def Lblock_Encode_0 (xblock_writer_put_1 : Tblock_writer_put_1) (xblock_mark : Tblock_mark) (K : Bool → (List Eng.V) → Bool → Bool → Prop) : (uQ59 → Prop) → uQ59 → Prop := fun k9 x10 =>
 (if decide (x10.1.2.2.2.2.2.2.2.2.2.1 < x10.1.2.2.2.2.2.2.2.2.1) then
 (if 0 ≤ x10.1.2.2.2.2.2.2.2.2.2.1 ∧ x10.1.2.2.2.2.2.2.2.2.2.1 < (↑(List.length x10.1.2.2.2.2.2.2.2.1) : Int) then
 (Eng.asInt IntKind.i64 (Eng.getC x10.1.2.2.2.2.2.2.2.1 (Int.toNat x10.1.2.2.2.2.2.2.2.2.2.1) (0 : Nat)) False fun n11 =>
 (Eng.asInt IntKind.i64 (Eng.getC x10.1.2.2.2.2.2.2.2.1 (Int.toNat x10.1.2.2.2.2.2.2.2.2.2.1) (1 : Nat)) False fun n12 =>
 xblock_writer_put_1 n11 x10.1.1 x10.2.2.1.2.1 x10.2.2.2.2.1.1 x10.2.2.2.2.1.2.1 x10.2.2.2.2.1.2.2 (fun r13 r14 r15 r16 =>
 k9 ((x10.1.1, (), (), x10.1.2.2.2.1, x10.1.2.2.2.2.1, (), (), x10.1.2.2.2.2.2.2.2.1, x10.1.2.2.2.2.2.2.2.2.1, w64 (x10.1.2.2.2.2.2.2.2.2.2.1 + 1), ()), x10.2.1, ((), r13, ()), x10.2.2.2.1, (r14, r15, r16), ()))))
 else
 False)
 else
 lp (Lblock_Encode_1 xblock_writer_put_1 xblock_mark K k9) ((x10.1.1, (), (), x10.1.2.2.2.1, x10.1.2.2.2.2.1, (), (), x10.2.1.2.1, (↑(List.length x10.2.1.2.1) : Int), 0, ()), x10.2.1, ((), x10.2.2.1.2), x10.2.2.2))
def Lblock_Encode_0p : Lp := ⟨30786325580598, [.trim 30786325580598, .trim 30786325580598, .fatC 240 0 1 2128, .trim 30786325580598, .ren 880 2128], upT66, upH64, 0⟩
def Yblock_Encode (xblock_Count : Tblock_Count) (xblock_pool : Tblock_pool) (xblock_writer_put_1 : Tblock_writer_put_1) (xblock_mark : Tblock_mark) (a0 : uQ58) (a1 : Int) (K : Bool → (List Eng.V) → Bool → Bool → Prop) : Prop :=
 xblock_Count a0 (fun r2 r3 =>
 (if (!r3) then
 K false [] true true
 else
 (if (a1 != 4) then
 (if (a1 != 8) then
 K false [] true true
 else
 xblock_pool a0 (fun r4 r5 r6 r7 r8 =>
 lp (Lblock_Encode_0 xblock_writer_put_1 xblock_mark K) ((a1, (), (), false, r4, (), (), a0.2.1, (↑(List.length a0.2.1) : Int), 0, ()), a0, ((), false, ()), (r6, r7, r8), ([], true, false), ())))
 else
 xblock_pool a0 (fun r56 r57 r58 r59 r60 =>
 lp (Lblock_Encode_0 xblock_writer_put_1 xblock_mark K) ((a1, (), (), false, r56, (), (), a0.2.1, (↑(List.length a0.2.1) : Int), 0, ()), a0, ((), false, ()), (r58, r59, r60), ([], true, false), ())))))
def Xblock_Encode : Tblock_Encode := Yblock_Encode Xblock_Count Xblock_pool Xblock_writer_put_1 Xblock_mark
def Jblock_Encode (X : Tblock_Encode) : Inst := mkI 20 upL67 .nil upL51 upH5 X
def Iblock_Encode : Inst := Jblock_Encode Xblock_Encode
theorem Eblock_Encode (xblock_Count : Tblock_Count) (xblock_pool : Tblock_pool) (xblock_writer_put_1 : Tblock_writer_put_1) (xblock_mark : Tblock_mark) : EqF Tryz.prog 109 gives Tryz.f20 [Jblock_Count xblock_Count, Jblock_pool xblock_pool, Jblock_writer_put_1 xblock_writer_put_1, Jblock_mark xblock_mark] [Lblock_Encode_0p, Lblock_Encode_1p, Lblock_Encode_2p, Lblock_Encode_3p] (Jblock_Encode (Yblock_Encode xblock_Count xblock_pool xblock_writer_put_1 xblock_mark)) := fun x y K => by kernel_rfl
theorem Iblock_Encode_ok : InstOk Tryz.prog G.1 Iblock_Encode := iok (gives := gives) [Lblock_Encode_0p, Lblock_Encode_1p, Lblock_Encode_2p, Lblock_Encode_3p] (okCons Iblock_Count_ok (okCons Iblock_pool_ok (okCons Iblock_writer_put_1_ok (okCons Iblock_mark_ok okNil)))) 109 follows Tryz.func20 (by kernel_rfl) (fun x => by kernel_rfl) (Eblock_Encode Xblock_Count Xblock_pool Xblock_writer_put_1 Xblock_mark)
abbrev Tslices_Equal___api_Type_api_Type_ : Type := (List Eng.V) → (List Eng.V) → (Bool → Prop) → Prop
def Lslices_Equal___api_Type_api_Type__0 (K : Bool → Prop) : (uQ91 → Prop) → uQ91 → Prop := fun k2 x3 =>
 (if decide (x3.1.2.2.2.2.1 < x3.1.2.2.2.1) then
 (if 0 ≤ x3.1.2.2.2.2.1 ∧ x3.1.2.2.2.2.1 < (↑(List.length x3.1.1) : Int) then
 (Eng.asInt IntKind.i64 (Eng.getC x3.1.1 (Int.toNat x3.1.2.2.2.2.1) (0 : Nat)) False fun n4 =>
 (Eng.asBool (Eng.getC x3.1.1 (Int.toNat x3.1.2.2.2.2.1) (1 : Nat)) False fun b5 =>
 (Eng.asStr (Eng.getC x3.1.1 (Int.toNat x3.1.2.2.2.2.1) (2 : Nat)) False fun t6 =>
 (if 0 ≤ x3.1.2.2.2.2.1 ∧ x3.1.2.2.2.2.1 < (↑(List.length x3.1.2.1) : Int) then
 (Eng.asInt IntKind.i64 (Eng.getC x3.1.2.1 (Int.toNat x3.1.2.2.2.2.1) (0 : Nat)) False fun n7 =>
 (Eng.asBool (Eng.getC x3.1.2.1 (Int.toNat x3.1.2.2.2.2.1) (1 : Nat)) False fun b8 =>
 (Eng.asStr (Eng.getC x3.1.2.1 (Int.toNat x3.1.2.2.2.2.1) (2 : Nat)) False fun t9 =>
 (lt (!(n4 == n7 && (b5 == b8 && (ByteArray.toList t6 == ByteArray.toList t9 && true)))) fun v10 =>
 (if v10 then
 K false
 else
 k2 ((x3.1.1, x3.1.2.1, x3.1.2.2.1, x3.1.2.2.2.1, w64 (x3.1.2.2.2.2.1 + 1), ()), ()))))))
 else
 False))))
 else
 False)
 else
 K true)
def Lslices_Equal___api_Type_api_Type__0p : Lp := ⟨12307, [.trim 12307], upT92, .nil, 0⟩
def Yslices_Equal___api_Type_api_Type_ (a0 : (List Eng.V)) (a1 : (List Eng.V)) (K : Bool → Prop) : Prop :=
 (if ((↑(List.length a0) : Int) != (↑(List.length a1) : Int)) then
 K false
 else
 lp (Lslices_Equal___api_Type_api_Type__0 K) ((a0, a1, false, (↑(List.length a0) : Int), 0, ()), ()))
def Xslices_Equal___api_Type_api_Type_ : Tslices_Equal___api_Type_api_Type_ := Yslices_Equal___api_Type_api_Type_
def Jslices_Equal___api_Type_api_Type_ (X : Tslices_Equal___api_Type_api_Type_) : Inst := mkI 69 upL93 .nil upL9 .nil X
def Islices_Equal___api_Type_api_Type_ : Inst := Jslices_Equal___api_Type_api_Type_ Xslices_Equal___api_Type_api_Type_
theorem Eslices_Equal___api_Type_api_Type_ : EqF Tryz.prog 26 gives Tryz.f69 [] [Lslices_Equal___api_Type_api_Type__0p] (Jslices_Equal___api_Type_api_Type_ (Yslices_Equal___api_Type_api_Type_)) := fun x y K => by kernel_rfl
theorem Islices_Equal___api_Type_api_Type__ok : InstOk Tryz.prog G.1 Islices_Equal___api_Type_api_Type_ := iok (gives := gives) [Lslices_Equal___api_Type_api_Type__0p] okNil 26 follows Tryz.func69 (by kernel_rfl) (fun x => by kernel_rfl) (Eslices_Equal___api_Type_api_Type_)
abbrev Tslices_Equal___api_Trans_api_Trans_ : Type := (List Eng.V) → (List Eng.V) → (Bool → Prop) → Prop
def Lslices_Equal___api_Trans_api_Trans__0 (K : Bool → Prop) : (uQ91 → Prop) → uQ91 → Prop := fun k2 x3 =>
 (if decide (x3.1.2.2.2.2.1 < x3.1.2.2.2.1) then
 (if 0 ≤ x3.1.2.2.2.2.1 ∧ x3.1.2.2.2.2.1 < (↑(List.length x3.1.1) : Int) then
 (Eng.asInt IntKind.i64 (Eng.getC x3.1.1 (Int.toNat x3.1.2.2.2.2.1) (0 : Nat)) False fun n4 =>
 (Eng.asInt IntKind.i64 (Eng.getC x3.1.1 (Int.toNat x3.1.2.2.2.2.1) (1 : Nat)) False fun n5 =>
 (if 0 ≤ x3.1.2.2.2.2.1 ∧ x3.1.2.2.2.2.1 < (↑(List.length x3.1.2.1) : Int) then
 (Eng.asInt IntKind.i64 (Eng.getC x3.1.2.1 (Int.toNat x3.1.2.2.2.2.1) (0 : Nat)) False fun n6 =>
 (Eng.asInt IntKind.i64 (Eng.getC x3.1.2.1 (Int.toNat x3.1.2.2.2.2.1) (1 : Nat)) False fun n7 =>
 (if (!(n4 == n6 && (n5 == n7 && true))) then
 K false
 else
 k2 ((x3.1.1, x3.1.2.1, x3.1.2.2.1, x3.1.2.2.2.1, w64 (x3.1.2.2.2.2.1 + 1), ()), ()))))
 else
 False)))
 else
 False)
 else
 K true)
def Lslices_Equal___api_Trans_api_Trans__0p : Lp := ⟨12307, [.trim 12307], upT94, .nil, 0⟩
def Yslices_Equal___api_Trans_api_Trans_ (a0 : (List Eng.V)) (a1 : (List Eng.V)) (K : Bool → Prop) : Prop :=
 (if ((↑(List.length a0) : Int) != (↑(List.length a1) : Int)) then
 K false
 else
 lp (Lslices_Equal___api_Trans_api_Trans__0 K) ((a0, a1, false, (↑(List.length a0) : Int), 0, ()), ()))
def Xslices_Equal___api_Trans_api_Trans_ : Tslices_Equal___api_Trans_api_Trans_ := Yslices_Equal___api_Trans_api_Trans_
def Jslices_Equal___api_Trans_api_Trans_ (X : Tslices_Equal___api_Trans_api_Trans_) : Inst := mkI 70 upL85 .nil upL9 .nil X
def Islices_Equal___api_Trans_api_Trans_ : Inst := Jslices_Equal___api_Trans_api_Trans_ Xslices_Equal___api_Trans_api_Trans_
theorem Eslices_Equal___api_Trans_api_Trans_ : EqF Tryz.prog 26 gives Tryz.f70 [] [Lslices_Equal___api_Trans_api_Trans__0p] (Jslices_Equal___api_Trans_api_Trans_ (Yslices_Equal___api_Trans_api_Trans_)) := fun x y K => by kernel_rfl
theorem Islices_Equal___api_Trans_api_Trans__ok : InstOk Tryz.prog G.1 Islices_Equal___api_Trans_api_Trans_ := iok (gives := gives) [Lslices_Equal___api_Trans_api_Trans__0p] okNil 26 follows Tryz.func70 (by kernel_rfl) (fun x => by kernel_rfl) (Eslices_Equal___api_Trans_api_Trans_)
abbrev Tslices_Equal___api_Corr_api_Corr_ : Type := (List Eng.V) → (List Eng.V) → (Bool → Prop) → Prop
def Lslices_Equal___api_Corr_api_Corr__0 (K : Bool → Prop) : (uQ91 → Prop) → uQ91 → Prop := fun k2 x3 =>
 (if decide (x3.1.2.2.2.2.1 < x3.1.2.2.2.1) then
 (if 0 ≤ x3.1.2.2.2.2.1 ∧ x3.1.2.2.2.2.1 < (↑(List.length x3.1.1) : Int) then
 (Eng.asInt IntKind.i64 (Eng.getC x3.1.1 (Int.toNat x3.1.2.2.2.2.1) (0 : Nat)) False fun n4 =>
 (Eng.asInt IntKind.i64 (Eng.getC x3.1.1 (Int.toNat x3.1.2.2.2.2.1) (1 : Nat)) False fun n5 =>
 (if 0 ≤ x3.1.2.2.2.2.1 ∧ x3.1.2.2.2.2.1 < (↑(List.length x3.1.2.1) : Int) then
 (Eng.asInt IntKind.i64 (Eng.getC x3.1.2.1 (Int.toNat x3.1.2.2.2.2.1) (0 : Nat)) False fun n6 =>
 (Eng.asInt IntKind.i64 (Eng.getC x3.1.2.1 (Int.toNat x3.1.2.2.2.2.1) (1 : Nat)) False fun n7 =>
 (if (!(n4 == n6 && (n5 == n7 && true))) then
 K false
 else
 k2 ((x3.1.1, x3.1.2.1, x3.1.2.2.1, x3.1.2.2.2.1, w64 (x3.1.2.2.2.2.1 + 1), ()), ()))))
 else
 False)))
 else
 False)
 else
 K true)
def Lslices_Equal___api_Corr_api_Corr__0p : Lp := ⟨12307, [.trim 12307], upT94, .nil, 0⟩
def Yslices_Equal___api_Corr_api_Corr_ (a0 : (List Eng.V)) (a1 : (List Eng.V)) (K : Bool → Prop) : Prop :=
 (if ((↑(List.length a0) : Int) != (↑(List.length a1) : Int)) then
 K false
 else
 lp (Lslices_Equal___api_Corr_api_Corr__0 K) ((a0, a1, false, (↑(List.length a0) : Int), 0, ()), ()))
def Xslices_Equal___api_Corr_api_Corr_ : Tslices_Equal___api_Corr_api_Corr_ := Yslices_Equal___api_Corr_api_Corr_
def Jslices_Equal___api_Corr_api_Corr_ (X : Tslices_Equal___api_Corr_api_Corr_) : Inst := mkI 71 upL85 .nil upL9 .nil X
def Islices_Equal___api_Corr_api_Corr_ : Inst := Jslices_Equal___api_Corr_api_Corr_ Xslices_Equal___api_Corr_api_Corr_
theorem Eslices_Equal___api_Corr_api_Corr_ : EqF Tryz.prog 26 gives Tryz.f71 [] [Lslices_Equal___api_Corr_api_Corr__0p] (Jslices_Equal___api_Corr_api_Corr_ (Yslices_Equal___api_Corr_api_Corr_)) := fun x y K => by kernel_rfl
theorem Islices_Equal___api_Corr_api_Corr__ok : InstOk Tryz.prog G.1 Islices_Equal___api_Corr_api_Corr_ := iok (gives := gives) [Lslices_Equal___api_Corr_api_Corr__0p] okNil 26 follows Tryz.func71 (by kernel_rfl) (fun x => by kernel_rfl) (Eslices_Equal___api_Corr_api_Corr_)
end Go.Proofs.YtbnpclndiichcaaGreatDoor
end
