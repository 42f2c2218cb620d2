/- What the functions come to in plain data, with proofs, and what that answers. -/
import Derived.Test.YtbnpclndiichcaaGreatDoorGTzifTells3
import Derived.Shelf.Small.Wraps
import Derived.Shelf.Strconv.Atoi
import Derived.Shelf.Strconv.Itoa0
import Derived.Shelf.Strconv.Itoa1
import Derived.Shelf.LaysM
import Derived.Shelf.Strconv.Itoa2
import Derived.Shelf.Strconv.Itoa3
import Derived.Shelf.Strconv.AtoiErrFast
import Derived.Shelf.Strconv.ParseIntEmpty
import Derived.Shelf.Strconv.AtoiFail
import Derived.Shelf.Strconv.Clone
import Derived.Shelf.Strconv.SyntaxError
import Derived.Shelf.LaysC
import Derived.Shelf.Strconv.ToError
import Derived.Shelf.Strconv.Lower
import Derived.Shelf.Strconv.ParseUint10
import Derived.Shelf.Strconv.ParseUint10Empty
import Derived.Shelf.Strconv.ParseUint10Any
import Derived.Shelf.Strconv.ParseInt10
import Derived.Shelf.Strconv.AtoiLong
import Derived.Shelf.Strconv.AtoiInnerAll
import Derived.Shelf.Strconv.RangeError
import Derived.Shelf.Strconv.ToErrorRange
import Derived.Shelf.Strconv.AtoiAll
import Derived.Shelf.Strconv.ErrVarAll
import Derived.Shelf.Strings.Search1
import Derived.Shelf.Strings.Search2
import Derived.Shelf.Strings.Search3
import Derived.Shelf.Strings.Cut
import Derived.Shelf.Strings.Shaped
import Derived.Shelf.Strings.Prefix
import Derived.Test.YtbnpclndiichcaaGreatDoorProg
import Derived.Lib.AppendIntMem
import Derived.Lib.ItoaMem
import Derived.Lib.ItoaNum
import Derived.Lib.AtoiErrMem
import Derived.Lib.LaidTab
section
set_option linter.unusedVariables false
set_option linter.unusedSimpArgs false
namespace Go.Proofs
open Go.Shelf
def Tryz.lays172_ren:Go.Shelf.Ren:=⟨fun | 172=>234 | 244=>252 | 245=>253 | 247=>264 | 279=>265 | 280=>266 | 281=>267 | 282=>268 | 287=>274 | 316=>275 | 171=>147 | 205=>276 | 321=>277 | 322=>278 | 243=>188 | 246=>218 | 283=>242 | 284=>243 | 285=>244 | 286=>245 | 129=>259 | 317=>258 | 318=>260 | 319=>261 | 320=>262 | 337=>272 | 338=>273 | n=>n,fun | 9=>9 | 3=>3 | 75=>217 | 76=>218 | 4=>4 | 5=>5 | 167=>236 | 37=>27 | 0=>0 | 85=>237 | 2=>2 | 168=>239 | 53=>203 | 175=>244 | 46=>150 | 210=>248 | 127=>253 | 145=>256 | 143=>254 | 21=>21 | 171=>221 | 173=>224 | 212=>233 | 51=>204 | 20=>20 | 213=>234 | 232=>250 | 233=>251 | 80=>257 | n=>n,fun | 15=>2 | 16=>3 | 17=>1 | 18=>4 | 19=>5 | n=>n⟩
theorem Tryz.lays172:Go.Proofs.Lays.n172 Tryz.prog Tryz.lays172_ren:={
 mixed:=by kernel_rfl
 f129:=Tryz.func259.trans (congrArg some (by kernel_rfl))
 f171:=Tryz.func147.trans (congrArg some (by kernel_rfl))
 f172:=Tryz.func234.trans (congrArg some (by kernel_rfl))
 f205:=Tryz.func276.trans (congrArg some (by kernel_rfl))
 f243:=Tryz.func188.trans (congrArg some (by kernel_rfl))
 f244:=Tryz.func252.trans (congrArg some (by kernel_rfl))
 f245:=Tryz.func253.trans (congrArg some (by kernel_rfl))
 f246:=Tryz.func218.trans (congrArg some (by kernel_rfl))
 f247:=Tryz.func264.trans (congrArg some (by kernel_rfl))
 f279:=Tryz.func265.trans (congrArg some (by kernel_rfl))
 f280:=Tryz.func266.trans (congrArg some (by kernel_rfl))
 f281:=Tryz.func267.trans (congrArg some (by kernel_rfl))
 f282:=Tryz.func268.trans (congrArg some (by kernel_rfl))
 f283:=Tryz.func242.trans (congrArg some (by kernel_rfl))
 f284:=Tryz.func243.trans (congrArg some (by kernel_rfl))
 f285:=Tryz.func244.trans (congrArg some (by kernel_rfl))
 f286:=Tryz.func245.trans (congrArg some (by kernel_rfl))
 f287:=Tryz.func274.trans (congrArg some (by kernel_rfl))
 f316:=Tryz.func275.trans (congrArg some (by kernel_rfl))
 f317:=Tryz.func258.trans (congrArg some (by kernel_rfl))
 f318:=Tryz.func260.trans (congrArg some (by kernel_rfl))
 f319:=Tryz.func261.trans (congrArg some (by kernel_rfl))
 f320:=Tryz.func262.trans (congrArg some (by kernel_rfl))
 f321:=Tryz.func277.trans (congrArg some (by kernel_rfl))
 f322:=Tryz.func278.trans (congrArg some (by kernel_rfl))
 f337:=Tryz.func272.trans (congrArg some (by kernel_rfl))
 f338:=Tryz.func273.trans (congrArg some (by kernel_rfl))
 t0:=Tryz.underlying0
 a0:=Tryz.isAgg0
 z0:=Tryz.sizeOf0
 v0:=Tryz.zeroValue0
 t2:=Tryz.underlying2
 a2:=Tryz.isAgg2
 z2:=Tryz.sizeOf2
 v2:=Tryz.zeroValue2
 t3:=Tryz.underlying3
 a3:=Tryz.isAgg3
 z3:=Tryz.sizeOf3
 v3:=Tryz.zeroValue3
 t4:=Tryz.underlying4
 a4:=Tryz.isAgg4
 z4:=Tryz.sizeOf4
 v4:=Tryz.zeroValue4
 t5:=Tryz.underlying5
 a5:=Tryz.isAgg5
 z5:=Tryz.sizeOf5
 v5:=Tryz.zeroValue5
 t9:=Tryz.underlying9
 a9:=Tryz.isAgg9
 z9:=Tryz.sizeOf9
 v9:=Tryz.zeroValue9
 t20:=Tryz.underlying20
 a20:=Tryz.isAgg20
 z20:=Tryz.sizeOf20
 v20:=Tryz.zeroValue20
 t21:=Tryz.underlying21
 a21:=Tryz.isAgg21
 z21:=Tryz.sizeOf21
 v21:=Tryz.zeroValue21
 t37:=Tryz.underlying27
 a37:=Tryz.isAgg27
 z37:=Tryz.sizeOf27
 v37:=Tryz.zeroValue27
 t46:=Tryz.underlying150
 a46:=Tryz.isAgg150
 z46:=Tryz.sizeOf150
 v46:=Tryz.zeroValue150
 t51:=Tryz.underlying204
 a51:=Tryz.isAgg204
 z51:=Tryz.sizeOf204
 v51:=Tryz.zeroValue204
 t53:=Tryz.underlying203
 a53:=Tryz.isAgg203
 z53:=Tryz.sizeOf203
 v53:=Tryz.zeroValue203
 t75:=Tryz.underlying217
 a75:=Tryz.isAgg217
 z75:=Tryz.sizeOf217
 v75:=Tryz.zeroValue217
 t76:=Tryz.underlying218
 a76:=Tryz.isAgg218
 z76:=Tryz.sizeOf218
 v76:=Tryz.zeroValue218
 t85:=Tryz.underlying237
 a85:=Tryz.isAgg237
 z85:=Tryz.sizeOf237
 v85:=Tryz.zeroValue237
 t127:=Tryz.underlying253
 a127:=Tryz.isAgg253
 z127:=Tryz.sizeOf253
 v127:=Tryz.zeroValue253
 t143:=Tryz.underlying254
 a143:=Tryz.isAgg254
 z143:=Tryz.sizeOf254
 v143:=Tryz.zeroValue254
 t145:=Tryz.underlying256
 a145:=Tryz.isAgg256
 z145:=Tryz.sizeOf256
 v145:=Tryz.zeroValue256
 t167:=Tryz.underlying236
 a167:=Tryz.isAgg236
 z167:=Tryz.sizeOf236
 v167:=Tryz.zeroValue236
 t168:=Tryz.underlying239
 a168:=Tryz.isAgg239
 z168:=Tryz.sizeOf239
 v168:=Tryz.zeroValue239
 t171:=Tryz.underlying221
 a171:=Tryz.isAgg221
 z171:=Tryz.sizeOf221
 v171:=Tryz.zeroValue221
 t173:=Tryz.underlying224
 a173:=Tryz.isAgg224
 z173:=Tryz.sizeOf224
 v173:=Tryz.zeroValue224
 t175:=Tryz.underlying244
 a175:=Tryz.isAgg244
 z175:=Tryz.sizeOf244
 v175:=Tryz.zeroValue244
 t210:=Tryz.underlying248
 a210:=Tryz.isAgg248
 z210:=Tryz.sizeOf248
 v210:=Tryz.zeroValue248
 t212:=Tryz.underlying233
 a212:=Tryz.isAgg233
 z212:=Tryz.sizeOf233
 v212:=Tryz.zeroValue233
 t213:=Tryz.underlying234
 a213:=Tryz.isAgg234
 z213:=Tryz.sizeOf234
 t232:=Tryz.underlying250
 a232:=Tryz.isAgg250
 z232:=Tryz.sizeOf250
 v232:=Tryz.zeroValue250
 t233:=Tryz.underlying251
 a233:=Tryz.isAgg251
 z233:=Tryz.sizeOf251
 v233:=Tryz.zeroValue251
 g15:=by kernel_rfl
 g16:=by kernel_rfl
 g17:=by kernel_rfl
 g18:=by kernel_rfl
 g19:=by kernel_rfl }
open Go.RowKit in
theorem Tryz.strconv_Atoi (s:ByteArray) (n:Int) (hl:s.size≤18) (h:Lib.atoi s.data.toList=some n) (w:World) :
  Calls Tryz.prog 234 #[.string s] w fun e w'=>e = .returned (.tuple #[.int .i64 n,.nilIface])∧∃ t,w'=Lib.bytesWorld w 5 t:=Any.strconv_Atoi Tryz.lays172 s n hl h w
open Go.RowKit Go.Sort Go.Lib in
def Tryz.lays217_ren:Go.Shelf.Ren:=⟨fun | 217=>219 | 266=>246 | n=>n,fun | 9=>9 | 5=>5 | 3=>3 | n=>n,fun | n=>n⟩
theorem Tryz.lays217:Go.Proofs.Lays.n217 Tryz.prog Tryz.lays217_ren:={
 mixed:=by kernel_rfl
 f217:=Tryz.func219.trans (congrArg some (by kernel_rfl))
 f266:=Tryz.func246.trans (congrArg some (by kernel_rfl))
 t3:=Tryz.underlying3
 a3:=Tryz.isAgg3
 z3:=Tryz.sizeOf3
 v3:=Tryz.zeroValue3
 t5:=Tryz.underlying5
 a5:=Tryz.isAgg5
 z5:=Tryz.sizeOf5
 v5:=Tryz.zeroValue5
 t9:=Tryz.underlying9
 a9:=Tryz.isAgg9
 z9:=Tryz.sizeOf9
 v9:=Tryz.zeroValue9 }
open Go.RowKit Go.Lib in
theorem Tryz.stringslite_IndexByte (s:ByteArray) (c:Int) (w:World) :
  Calls Tryz.prog 219 #[.string s,.int .u8 c] w fun e w'=>e = .returned (.int .i64 (Lib.indexByte s.data.toList c.toNat.toUInt8))∧w'=w:=Any.stringslite_IndexByte Tryz.lays217 s c w
end Go.Proofs
end
section
set_option linter.unusedVariables false
set_option linter.unusedSimpArgs false
namespace Go.Proofs.YtbnpclndiichcaaGreatDoor
open Go Go.Proofs.YtbnpclndiichcaaGreatDoor.Eng Go.RowKit
def gives:FuncId→Bool:=fun g=>Nat.beq g 143 || Nat.beq g (1000000+13) || Nat.beq g 3561190
theorem follows:Tryz.prog.follows .mixedOrders=true:=by kernel_rfl
abbrev Gs:={l:List (Nat×Obj) // ∀ w:World,(∀ x∈l,w.heap[x.1]? = some x.2)→Lib.TabIs Tryz.prog w "internal/strconv.uint64pow10" .u64 Lib.pow10Tab}
variable {G:Gs}
abbrev Tatoi:Type:=ByteArray→(Int→Value→Prop)→Prop
abbrev Tq3o:Type:=ByteArray→Int→(Int→Prop)→Prop
def Xatoi (s:ByteArray) (K:Int→Value→Prop):Prop:=∃ n,s.size≤18∧Lib.atoi s.data.toList=some n∧K n .nilIface
def Jatoi (X:ByteArray→(Int→Value→Prop)→Prop):Inst:=⟨234,(.cons .str .nil),.nil,(.cons (.int .i64) (.cons .val .nil)),.nil,fun x y K=>X x.1 (fun u0 u1=>K (u0,(u1,())) ())⟩
def Iatoi:Inst:=Jatoi Xatoi
theorem Iatoi_ok:InstOk Tryz.prog G.1 Iatoi:=fun ⟨s,_⟩ y K ⟨n,h1,h2,h3⟩ =>
 (told (args:=[.string s]) (rs:=[.int .i64 n,.nilIface]) rfl fun w _=>(Tryz.strconv_Atoi s n h1 h2 w).mono fun e w' ⟨he,t,hw⟩=>⟨he,by subst hw; exact Lib.bytesWorld_below _ _ _⟩).mono fun rs h' ⟨e1,e2⟩=>⟨(n,(.nilIface,())),(),e1,e2,h3⟩
def Xq3o (s:ByteArray) (c:Int) (K:Int→Prop):Prop:=K (Lib.indexByte s.data.toList c.toNat.toUInt8)
def Jq3o (X:ByteArray→Int→(Int→Prop)→Prop):Inst:=⟨219,(.cons .str (.cons (.int .u8) .nil)),.nil,(.cons (.int .i64) .nil),.nil,fun x y K=>X x.1 x.2.1 (fun u0=>K (u0,()) ())⟩
def Iq3o:Inst:=Jq3o Xq3o
theorem Iq3o_ok:InstOk Tryz.prog G.1 Iq3o:=fun ⟨s,c,_⟩ y K h3 =>
 (told (args:=[.string s,.int .u8 c]) (rs:=[.int .i64 (Lib.indexByte s.data.toList c.toNat.toUInt8)]) rfl fun w _=>(Tryz.stringslite_IndexByte s c w).mono fun e w' ⟨he,hw⟩=>⟨he,by subst hw; exact Below.refl _ _⟩).mono fun rs h' ⟨e1,e2⟩=>⟨(_,()),(),e1,e2,h3⟩
theorem gs_of {w:World} (h:Lib.TabIs Tryz.prog w "internal/strconv.uint64pow10" .u64 Lib.pow10Tab):∃ G:Gs,∀ x∈G.1,w.heap[x.1]? = some x.2:=by
 unfold Lib.TabIs World.var? at h
 cases hg:Tryz.prog.globalNamed "internal/strconv.uint64pow10" with
 | none=>rw [hg] at h; cases h
 | some g =>
  rw [hg] at h
  simp only [Option.bind_some] at h
  cases ho:w.heap[g]? with
  | none=>rw [ho] at h; cases h
  | some o =>
   rw [ho] at h
   refine ⟨⟨[(g,o)],fun w' hw=>?_⟩,fun x hx=>?_⟩
   ·have:=hw (g,o) (.head _)
    unfold Lib.TabIs World.var?
    rw [hg]
    simp only [Option.bind_some,this]
    exact h
   ·simp only [List.mem_singleton] at hx
    subst hx; exact ho
theorem globN:Tryz.prog.globalNamed "internal/strconv.uint64pow10" = some 1:=by kernel_rfl
end Go.Proofs.YtbnpclndiichcaaGreatDoor
end
section
set_option linter.unusedVariables false
set_option linter.unusedSimpArgs false
namespace Go.Proofs.YtbnpclndiichcaaGreatDoor
open Go Go.Proofs.YtbnpclndiichcaaGreatDoor.Eng
set_option maxRecDepth 100000
set_option maxHeartbeats 4000000
variable {G:Gs}
abbrev pL0:PL:=(.cons (.int .i32) .nil)
abbrev pL1:PL:=(.cons .bool .nil)
abbrev Q2:Type:=((Unit×Unit)×Bool×Int×Unit×Unit)×(ByteArray×Nat)×Unit
abbrev pT3:PT:=(.cons 1 (.fn (.func 144) .nil .nil) (.cons 2 .bool (.cons 6 (.int .i64) (.cons 10 (.it 224) .nil))))
abbrev pH4:PH:=(.cons 224 .iter .nil)
abbrev pL5:PL:=(.cons .str (.cons (.fn (.func 144) .nil .nil) (.cons .bool .nil)))
abbrev pL6:PL:=(.cons (.int .i64) .nil)
abbrev pL7:PL:=(.cons .str (.cons (.fn (.func 144) .nil .nil) .nil))
abbrev pL8:PL:=(.cons .str .nil)
abbrev Q9:Type:=(ByteArray×Unit×Bool×Unit×List Eng.V×Int×Int×Unit)×List (Go.Value×Eng.V)×List Eng.V×Unit
abbrev pT10:PT:=(.cons 2 .str (.cons 3 (.sla 816) (.cons 4 .bool (.cons 5 (.mp 224) (.cons 11 (.slN 1) (.cons 12 (.int .i64) (.cons 13 (.int .i64) .nil)))))))
abbrev pH11:PH:=(.cons 224 .mapI (.cons 816 (.arr 1 true false) .nil))
abbrev pL12:PL:=(.cons (.slN 1) .nil)
abbrev pL13:PL:=(.cons .str (.cons (.sla 0) (.cons .bool .nil)))
abbrev pH14:PH:=(.cons 0 (.arrB 1) .nil)
abbrev Q15:Type:=List Eng.V×List Eng.V×List Eng.V×ByteArray×Int×Unit
abbrev Q16:Type:=(ByteArray×Unit×Bool×Unit×List Eng.V×Int×Int×Unit)×List Eng.V×Unit
abbrev pT17:PT:=(.cons 2 .str (.cons 3 (.nl 0) (.cons 4 .bool (.cons 5 (.sla 480) (.cons 9 (.slN 3) (.cons 10 (.int .i64) (.cons 11 (.int .i64) .nil)))))))
abbrev pH18:PH:=(.cons 480 (.arr 1 true false) .nil)
abbrev pL19:PL:=(.cons (.agg (.cons (.slN 3) (.cons (.slN 2) (.cons (.slN 2) (.cons .str (.cons (.int .i64) .nil)))))) .nil)
abbrev pL20:PL:=(.cons (.int .i64) (.cons (.int .i64) (.cons (.int .i64) .nil)))
abbrev Q21:Type:=Int×Int×Int×Int×Int×Int×Int×Unit
abbrev pL22:PL:=(.cons (.agg (.cons (.int .i64) (.cons (.int .i64) (.cons (.int .i64) (.cons (.int .i64) (.cons (.int .i64) (.cons (.int .i64) (.cons (.int .i64) .nil)))))))) .nil)
abbrev pL23:PL:=(.cons (.agg (.cons (.int .i64) (.cons (.int .i64) (.cons (.int .i64) (.cons (.int .i64) (.cons (.int .i64) (.cons (.int .i64) (.cons (.int .i64) .nil)))))))) (.cons .bool .nil))
abbrev pL24:PL:=(.cons (.int .i64) (.cons (.int .i64) .nil))
abbrev pL25:PL:=(.cons (.int .i64) (.cons .bool .nil))
abbrev Q26:Type:=(List Eng.V×Int×Int×Unit×List Eng.V×Int×Int×Unit)×(Int×Int×Unit)×Unit
abbrev pT27:PT:=(.cons 0 (.slN 2) (.cons 2 (.int .i64) (.cons 3 (.int .i64) (.cons 4 (.ptr 128 0) (.cons 12 (.slN 2) (.cons 13 (.int .i64) (.cons 14 (.int .i64) .nil)))))))
abbrev pH28:PH:=(.cons 128 (.cells [.int .i64,.int .i64] (.cons (.int .i64) (.cons (.int .i64) .nil))) .nil)
abbrev pL29:PL:=(.cons (.slN 2) .nil)
abbrev pL30:PL:=(.cons (.sla 0) .nil)
abbrev pH31:PH:=(.cons 0 (.arrB 2) .nil)
abbrev Q32:Type:=Int×Bool×ByteArray×Unit
abbrev pL33:PL:=(.cons (.int .i64) (.cons (.agg (.cons (.int .i64) (.cons .bool (.cons .str .nil)))) .nil))
abbrev Q34:Type:=((Unit×Unit)×Bool×List Eng.V×Int×Int×Unit)×Unit
abbrev pT35:PT:=(.cons 1 (.fn (.func 55) .nil .nil) (.cons 4 .bool (.cons 7 (.slN 3) (.cons 8 (.int .i64) (.cons 9 (.int .i64) .nil)))))
abbrev pL36:PL:=(.cons (.slN 3) (.cons (.fn (.func 55) .nil .nil) .nil))
abbrev Q37:Type:=Int×Int×Unit
abbrev pL38:PL:=(.cons (.int .i64) (.cons (.agg (.cons (.int .i64) (.cons (.int .i64) .nil))) (.cons (.ptr 0 0) .nil)))
abbrev pH39:PH:=(.cons 0 (.cells [.sl 3,.sl 2,.sl 2,.str,.int .i64] (.cons (.slN 3) (.cons (.slN 2) (.cons (.slN 2) (.cons .str (.cons (.int .i64) .nil)))))) .nil)
abbrev pH40:PH:=(.cons 0 (.cells [.sl 3,.sl 2,.sl 2,.str,.int .i64] (.cons (.sla 1) (.cons (.sla 2) (.cons (.sla 3) (.cons .str (.cons (.int .i64) .nil)))))) (.cons 1 (.arrB 3) (.cons 2 (.arrB 2) (.cons 3 (.arrB 2) .nil))))
abbrev Q41:Type:=((Unit×Unit×Unit)×Bool×List Eng.V×Int×Int×Unit)×(List Eng.V×List Eng.V×List Eng.V×ByteArray×Int×Unit)×Unit
abbrev pT42:PT:=(.cons 1 (.fn (.func 57) .nil (.cons (.ptr 0 0) .nil)) (.cons 4 .bool (.cons 7 (.slN 2) (.cons 8 (.int .i64) (.cons 9 (.int .i64) .nil)))))
abbrev pL43:PL:=(.cons (.slN 2) (.cons (.fn (.func 57) .nil (.cons (.ptr 0 0) .nil)) .nil))
abbrev pL44:PL:=(.cons (.agg (.cons (.int .i64) (.cons .bool (.cons .str .nil)))) (.cons .bool .nil))
abbrev Q45:Type:=Int×Int×Int×Int×Int×Unit
abbrev pL46:PL:=(.cons (.agg (.cons (.int .i64) (.cons (.int .i64) (.cons (.int .i64) (.cons (.int .i64) (.cons (.int .i64) .nil)))))) .nil)
abbrev Q47:Type:=Int×Bool×ByteArray×Int×Bool×ByteArray×Bool×Int×Int×Int×Int×Int×Int×Int×Int×Int×Int×Unit
abbrev pL48:PL:=(.cons (.agg (.cons (.int .i64) (.cons .bool (.cons .str (.cons (.int .i64) (.cons .bool (.cons .str (.cons .bool (.cons (.int .i64) (.cons (.int .i64) (.cons (.int .i64) (.cons (.int .i64) (.cons (.int .i64) (.cons (.int .i64) (.cons (.int .i64) (.cons (.int .i64) (.cons (.int .i64) (.cons (.int .i64) .nil)))))))))))))))))) .nil)
abbrev pL49:PL:=(.cons .str (.cons .str .nil))
abbrev pL50:PL:=(.cons .str (.cons .bool .nil))
abbrev pL51:PL:=(.cons .str (.cons .str (.cons .bool .nil)))
abbrev pT52:PT:=(.cons 1 (.fn (.func 230) .nil .nil) (.cons 2 .bool (.cons 6 (.int .i64) (.cons 10 (.it 224) .nil))))
abbrev pL53:PL:=(.cons .str (.cons (.fn (.func 230) .nil .nil) (.cons .bool .nil)))
abbrev pL54:PL:=(.cons .str (.cons (.fn (.func 230) .nil .nil) .nil))
abbrev pL55:PL:=(.cons (.ptr 0 0) .nil)
abbrev pH56:PH:=(.cons 0 (.cells [.str,.int .i64,.bool,.str,.int .i64,.bool,.str,.bool,.int .i64,.int .i64,.int .i64,.int .i64,.int .i64,.int .i64,.int .i64,.int .i64,.int .i64,.int .i64] (.cons .str (.cons (.int .i64) (.cons .bool (.cons .str (.cons (.int .i64) (.cons .bool (.cons .str (.cons .bool (.cons (.int .i64) (.cons (.int .i64) (.cons (.int .i64) (.cons (.int .i64) (.cons (.int .i64) (.cons (.int .i64) (.cons (.int .i64) (.cons (.int .i64) (.cons (.int .i64) (.cons (.int .i64) .nil))))))))))))))))))) .nil)
abbrev Q57:Type:=(ByteArray×Int×Unit×Unit)×(ByteArray×Nat)×Unit
abbrev pT58:PT:=(.cons 0 .str (.cons 2 (.int .i64) (.cons 6 (.it 160) .nil)))
abbrev pH59:PH:=(.cons 160 .iter .nil)
abbrev pL60:PL:=(.cons (.int .i64) (.cons .str (.cons .bool .nil)))
abbrev pL61:PL:=(.cons .str (.cons (.int .i64) .nil))
abbrev pL62:PL:=(.cons (.agg (.cons (.int .i64) (.cons (.int .i64) (.cons (.int .i64) (.cons (.int .i64) (.cons (.int .i64) .nil)))))) (.cons .str (.cons .bool .nil)))
abbrev pL63:PL:=(.cons (.ptr 0 0) (.cons (.ptr 0 8) .nil))
abbrev pL64:PL:=(.cons (.ptr 0 0) (.cons (.ptr 0 13) .nil))
abbrev pL65:PL:=(.cons (.agg (.cons (.int .i64) (.cons .bool (.cons .str (.cons (.int .i64) (.cons .bool (.cons .str (.cons .bool (.cons (.int .i64) (.cons (.int .i64) (.cons (.int .i64) (.cons (.int .i64) (.cons (.int .i64) (.cons (.int .i64) (.cons (.int .i64) (.cons (.int .i64) (.cons (.int .i64) (.cons (.int .i64) .nil)))))))))))))))))) (.cons .bool .nil))
abbrev Q127:Type:=(Unit×Bool×Int×Unit)×(List Eng.V×List Eng.V×List Eng.V×ByteArray×Int×Unit)×Unit
abbrev pT128:PT:=(.cons 1 (.ptr 80 0) (.cons 2 .bool (.cons 3 (.int .i64) .nil)))
abbrev pH129:PH:=(.cons 80 (.cells [.sl 3,.sl 2,.sl 2,.str,.int .i64] (.cons (.slN 3) (.cons (.slN 2) (.cons (.slN 2) (.cons .str (.cons (.int .i64) .nil)))))) .nil)
abbrev Tq3m:Type:=Int→(Bool→Prop)→Prop
def Yq3m (a0:Int) (K:Bool→Prop):Prop :=
 (if decide (a0≥97) then
 (if decide (a0≤122) then
 K true
 else
 (if decide (a0≥65) then
 (if decide (a0≤90) then
 K true
 else
 (if decide (a0≥48) then
 (if decide (a0≤57) then
 K true
 else
 (if (a0 == 43) then
 K true
 else
 K (a0 == 45)))
 else
 (if (a0 == 43) then
 K true
 else
 K (a0 == 45))))
 else
 (if decide (a0≥48) then
 (if decide (a0≤57) then
 K true
 else
 (if (a0 == 43) then
 K true
 else
 K (a0 == 45)))
 else
 (if (a0 == 43) then
 K true
 else
 K (a0 == 45)))))
 else
 (if decide (a0≥65) then
 (if decide (a0≤90) then
 K true
 else
 (if decide (a0≥48) then
 (if decide (a0≤57) then
 K true
 else
 (if (a0 == 43) then
 K true
 else
 K (a0 == 45)))
 else
 (if (a0 == 43) then
 K true
 else
 K (a0 == 45))))
 else
 (if decide (a0≥48) then
 (if decide (a0≤57) then
 K true
 else
 (if (a0 == 43) then
 K true
 else
 K (a0 == 45)))
 else
 (if (a0 == 43) then
 K true
 else
 K (a0 == 45)))))
def Xq3m:Tq3m:=Yq3m
def Jq3m (X:Tq3m):Inst:=mkI 145 pL0 .nil pL1 .nil X
def Iq3m:Inst:=Jq3m Xq3m
theorem Eq3m:EqF Tryz.prog 33 gives Tryz.f145 [] [] (Jq3m (Yq3m)):=fun x y K=>by kernel_rfl
theorem Iq3m_ok:InstOk Tryz.prog G.1 Iq3m:=iok (gives:=gives) [] okNil 33 follows Tryz.func145 (by kernel_rfl) (fun x=>by kernel_rfl) (Eq3m)
abbrev Tq2m:Type:=Int→(Bool→Prop)→Prop
def Yq2m (xq3m:Tq3m) (a0:Int) (K:Bool→Prop):Prop :=
 xq3m a0 (fun r1 =>
 K !r1)
def Xq2m:Tq2m:=Yq2m Xq3m
def Jq2m (X:Tq2m):Inst:=mkI 144 pL0 .nil pL1 .nil X
def Iq2m:Inst:=Jq2m Xq2m
theorem Eq2m (xq3m:Tq3m):EqF Tryz.prog 6 gives Tryz.f144 [Jq3m xq3m] [] (Jq2m (Yq2m xq3m)):=fun x y K=>by kernel_rfl
theorem Iq2m_ok:InstOk Tryz.prog G.1 Iq2m:=iok (gives:=gives) [] (okCons Iq3m_ok okNil) 6 follows Tryz.func144 (by kernel_rfl) (fun x=>by kernel_rfl) (Eq2m Xq3m)
abbrev Tq15:Type:=ByteArray→Bool→(Int→Prop)→Prop
def Lq15_0 (xq2m:Tq2m) (K:Int→Prop):(Q2→Prop)→Q2→Prop:=fun k2 x3 =>
 (if x3.2.1.2 < ByteArray.size x3.2.1.1 then
 xq2m (↑(Prod.fst (Go.Utf8.decode x3.2.1.1 x3.2.1.2)):Int) (fun r4 =>
 (if (r4 == x3.1.2.1) then
 K (↑(x3.2.1.2):Int)
 else
 k2 ((((),()),x3.1.2.1,x3.1.2.2.1,(),()),(x3.2.1.1,x3.2.1.2+Prod.snd (Go.Utf8.decode x3.2.1.1 x3.2.1.2)),())))
 else
 K (-1))
def Lq15_0p:Lp:=⟨1094,[.trim 1094],pT3,pH4,0⟩
def Yq15 (xq2m:Tq2m) (a0:ByteArray) (a1:Bool) (K:Int→Prop):Prop :=
 lp (Lq15_0 xq2m K) ((((),()),a1,0,(),()),(a0,(0:Nat)),())
def Xq15:Tq15:=Yq15 Xq2m
def Jq15 (X:Tq15):Inst:=mkI 217 pL5 .nil pL6 .nil X
def Iq15:Inst:=Jq15 Xq15
theorem Eq15 (xq2m:Tq2m):EqF Tryz.prog 21 gives Tryz.f217 [Jq2m xq2m] [Lq15_0p] (Jq15 (Yq15 xq2m)):=fun x y K=>by kernel_rfl
theorem Iq15_ok:InstOk Tryz.prog G.1 Iq15:=iok (gives:=gives) [Lq15_0p] (okCons Iq2m_ok okNil) 21 follows Tryz.func217 (by kernel_rfl) (fun x=>by kernel_rfl) (Eq15 Xq2m)
abbrev Tq16:Type:=ByteArray→(Int→Prop)→Prop
def Yq16 (xq15:Tq15) (a0:ByteArray) (K:Int→Prop):Prop :=
 xq15 a0 true (fun r1 =>
 K r1)
def Xq16:Tq16:=Yq16 Xq15
def Jq16 (X:Tq16):Inst:=mkI 187 pL7 .nil pL6 .nil X
def Iq16:Inst:=Jq16 Xq16
theorem Eq16 (xq15:Tq15):EqF Tryz.prog 8 gives Tryz.f187 [Jq15 xq15] [] (Jq16 (Yq16 xq15)):=fun x y K=>by kernel_rfl
theorem Iq16_ok:InstOk Tryz.prog G.1 Iq16:=iok (gives:=gives) [] (okCons Iq15_ok okNil) 8 follows Tryz.func187 (by kernel_rfl) (fun x=>by kernel_rfl) (Eq16 Xq15)
abbrev Tq0h:Type:=ByteArray→(Bool→Prop)→Prop
def Yq0h (xq16:Tq16) (a0:ByteArray) (K:Bool→Prop):Prop :=
 xq16 a0 (fun r1 =>
 K (decide (r1≥0)))
def Xq0h:Tq0h:=Yq0h Xq16
def Jq0h (X:Tq0h):Inst:=mkI 146 pL7 .nil pL1 .nil X
def Iq0h:Inst:=Jq0h Xq0h
theorem Eq0h (xq16:Tq16):EqF Tryz.prog 9 gives Tryz.f146 [Jq16 xq16] [] (Jq0h (Yq0h xq16)):=fun x y K=>by kernel_rfl
theorem Iq0h_ok:InstOk Tryz.prog G.1 Iq0h:=iok (gives:=gives) [] (okCons Iq16_ok okNil) 9 follows Tryz.func146 (by kernel_rfl) (fun x=>by kernel_rfl) (Eq0h Xq16)
abbrev Tq38:Type:=ByteArray→(Bool→Prop)→Prop
def Yq38 (xq0h:Tq0h) (a0:ByteArray) (K:Bool→Prop):Prop :=
 (if decide ((↑(ByteArray.size a0):Int)≥3) then
 (if decide ((↑(ByteArray.size a0):Int)≤16) then
 xq0h a0 (fun r1 =>
 K !r1)
 else
 K false)
 else
 K false)
def Xq38:Tq38:=Yq38 Xq0h
def Jq38 (X:Tq38):Inst:=mkI 83 pL8 .nil pL1 .nil X
def Iq38:Inst:=Jq38 Xq38
theorem Eq38 (xq0h:Tq0h):EqF Tryz.prog 18 gives Tryz.f83 [Jq0h xq0h] [] (Jq38 (Yq38 xq0h)):=fun x y K=>by kernel_rfl
theorem Iq38_ok:InstOk Tryz.prog G.1 Iq38:=iok (gives:=gives) [] (okCons Iq0h_ok okNil) 18 follows Tryz.func83 (by kernel_rfl) (fun x=>by kernel_rfl) (Eq38 Xq0h)
abbrev Tq3p:Type:=(List Eng.V)→(ByteArray→Bool→(List Eng.V)→Bool→Bool→Prop)→Prop
def Lq3p_0 (xq38:Tq38) (K:ByteArray→Bool→(List Eng.V)→Bool→Bool→Prop):(Q9→Prop)→Q9→Prop:=fun k1 x2 =>
 (if decide (x2.1.2.2.2.2.2.2.1 < x2.1.2.2.2.2.2.1) then
 (if 0≤x2.1.2.2.2.2.2.2.1∧x2.1.2.2.2.2.2.2.1 < (↑(List.length x2.1.2.2.2.2.1):Int) then
 (Eng.asStr (Eng.getC x2.1.2.2.2.2.1 (Int.toNat x2.1.2.2.2.2.2.2.1) (0:Nat)) False fun t3 =>
 xq38 t3 (fun r4 =>
 (if (!r4) then
 K (ByteArray.mk #[]) false [] true true
 else
 (Eng.asMpI IntKind.i64 (Eng.mpGet t3 x2.2.1) False fun n5 n6 =>
 (if (!n6) then
 (if Option.isSome (Eng.mpGet t3 x2.2.1) then
 (if (↑(ByteArray.size t3+(1:Nat)):Int) > 9223372036854775807 then
 False
 else
 (if (↑(ByteArray.size x2.1.1+ByteArray.size (t3++ByteArray.mk #[(0:UInt8)])):Int) > 9223372036854775807 then
 False
 else
 (lt (x2.1.1++(t3++ByteArray.mk #[(0:UInt8)])) fun v7 =>
 (if Eng.roomOk (List.length x2.2.2.1+List.length [Eng.V.c (Value.int IntKind.i64 (↑(ByteArray.size x2.1.1):Int))]) (8:Nat) then
 k1 ((v7,(),x2.1.2.2.1,(),x2.1.2.2.2.2.1,x2.1.2.2.2.2.2.1,w64 (x2.1.2.2.2.2.2.2.1+1),()),Eng.mpPut t3 (Eng.V.c (Value.int IntKind.i64 (↑(ByteArray.size x2.1.1):Int))) x2.2.1,x2.2.2.1++[Eng.V.c (Value.int IntKind.i64 (↑(ByteArray.size x2.1.1):Int))],())
 else
 False))))
 else
 False)
 else
 (if Eng.roomOk (List.length x2.2.2.1+List.length [Eng.V.c (Value.int IntKind.i64 n5)]) (8:Nat) then
 k1 ((x2.1.1,(),x2.1.2.2.1,(),x2.1.2.2.2.2.1,x2.1.2.2.2.2.2.1,w64 (x2.1.2.2.2.2.2.2.1+1),()),x2.2.1,x2.2.2.1++[Eng.V.c (Value.int IntKind.i64 n5)],())
 else
 False))))))
 else
 False)
 else
 (if decide ((↑(ByteArray.size x2.1.1):Int) > 256) then
 K (ByteArray.mk #[]) false [] true true
 else
 K x2.1.1 true x2.2.2.1 true false))
def Lq3p_0p:Lp:=⟨14396,[.trim 14396,.fat 3 1 816,.trim 14396],pT10,pH11,0⟩
def Yq3p (xq38:Tq38) (a0:(List Eng.V)) (K:ByteArray→Bool→(List Eng.V)→Bool→Bool→Prop):Prop :=
 lp (Lq3p_0 xq38 K) ((ByteArray.mk #[],(),false,(),a0,(↑(List.length a0):Int),0,()),[],[],())
def Xq3p:Tq3p:=Yq3p Xq38
def Jq3p (X:Tq3p):Inst:=mkI 124 pL12 .nil pL13 pH14 X
def Iq3p:Inst:=Jq3p Xq3p
theorem Eq3p (xq38:Tq38):EqF Tryz.prog 47 gives Tryz.f124 [Jq38 xq38] [Lq3p_0p] (Jq3p (Yq3p xq38)):=fun x y K=>by kernel_rfl
theorem Iq3p_ok:InstOk Tryz.prog G.1 Iq3p:=iok (gives:=gives) [Lq3p_0p] (okCons Iq38_ok okNil) 47 follows Tryz.func124 (by kernel_rfl) (fun x=>by kernel_rfl) (Eq3p Xq38)
abbrev Tq37:Type:=Q15→(ByteArray→Bool→(List Eng.V)→Bool→Bool→Prop)→Prop
def Lq37_0 (xq3p:Tq3p) (K:ByteArray→Bool→(List Eng.V)→Bool→Bool→Prop):(Q16→Prop)→Q16→Prop:=fun k1 x2 =>
 (if decide (x2.1.2.2.2.2.2.2.1 < x2.1.2.2.2.2.2.1) then
 (if 0≤x2.1.2.2.2.2.2.2.1∧x2.1.2.2.2.2.2.2.1 < (↑(List.length x2.1.2.2.2.2.1):Int) then
 (Eng.asInt IntKind.i64 (Eng.getC x2.1.2.2.2.2.1 (Int.toNat x2.1.2.2.2.2.2.2.1) (0:Nat)) False fun n3 =>
 (Eng.asBool (Eng.getC x2.1.2.2.2.2.1 (Int.toNat x2.1.2.2.2.2.2.2.1) (1:Nat)) False fun b4 =>
 (Eng.asStr (Eng.getC x2.1.2.2.2.2.1 (Int.toNat x2.1.2.2.2.2.2.2.1) (2:Nat)) False fun t5 =>
 (if Eng.roomOk (List.length x2.2.1+List.length [Eng.V.c (Value.string t5)]) (16:Nat) then
 k1 ((x2.1.1,(),x2.1.2.2.1,(),x2.1.2.2.2.2.1,x2.1.2.2.2.2.2.1,w64 (x2.1.2.2.2.2.2.2.1+1),()),x2.2.1++[Eng.V.c (Value.string t5)],())
 else
 False))))
 else
 False)
 else
 xq3p x2.2.1 (fun r6 r7 r8 r9 r10 =>
 K r6 r7 r8 r9 r10))
def Lq37_0p:Lp:=⟨3644,[.trim 3644,.fat 5 1 480,.trim 3644],pT17,pH18,0⟩
def Yq37 (xq3p:Tq3p) (a0:Q15) (K:ByteArray→Bool→(List Eng.V)→Bool→Bool→Prop):Prop :=
 lp (Lq37_0 xq3p K) ((ByteArray.mk #[],(),false,(),a0.1,(↑(List.length a0.1):Int),0,()),[],())
def Xq37:Tq37:=Yq37 Xq3p
def Jq37 (X:Tq37):Inst:=mkI 59 pL19 .nil pL13 pH14 X
def Iq37:Inst:=Jq37 Xq37
theorem Eq37 (xq3p:Tq3p):EqF Tryz.prog 26 gives Tryz.f59 [Jq3p xq3p] [Lq37_0p] (Jq37 (Yq37 xq3p)):=fun x y K=>by kernel_rfl
theorem Iq37_ok:InstOk Tryz.prog G.1 Iq37:=iok (gives:=gives) [Lq37_0p] (okCons Iq3p_ok okNil) 26 follows Tryz.func59 (by kernel_rfl) (fun x=>by kernel_rfl) (Eq37 Xq3p)
abbrev Tq31:Type:=Int→Int→Int→(Bool→Prop)→Prop
def Yq31 (a0:Int) (a1:Int) (a2:Int) (K:Bool→Prop):Prop :=
 (if decide (a0≥a1) then
 K (decide (a0≤a2))
 else
 K false)
def Xq31:Tq31:=Yq31
def Jq31 (X:Tq31):Inst:=mkI 125 pL20 .nil pL1 .nil X
def Iq31:Inst:=Jq31 Xq31
theorem Eq31:EqF Tryz.prog 15 gives Tryz.f125 [] [] (Jq31 (Yq31)):=fun x y K=>by kernel_rfl
theorem Iq31_ok:InstOk Tryz.prog G.1 Iq31:=iok (gives:=gives) [] okNil 15 follows Tryz.func125 (by kernel_rfl) (fun x=>by kernel_rfl) (Eq31)
abbrev Tq36:Type:=Q21→(Bool→Prop)→Prop
def Yq36 (xq31:Tq31) (a0:Q21) (K:Bool→Prop):Prop :=
 xq31 a0.2.2.2.1 0 201 (fun r1 =>
 (if r1 then
 xq31 a0.2.2.2.2.1 0 2000 (fun r2 =>
 (if r2 then
 xq31 a0.2.2.2.2.2.1 1 64 (fun r3 =>
 (if r3 then
 xq31 a0.2.2.2.2.2.2.1 1 256 (fun r4 =>
 (if (a0.2.1 == 0) then
 (if (a0.2.2.1 == 0) then
 (if r4 then
 xq31 a0.1 1 4 (fun r5 =>
 K r5)
 else
 K false)
 else
 (if r4 then
 (if (a0.2.2.1 == a0.2.2.2.2.2.1) then
 xq31 a0.1 1 4 (fun r6 =>
 K r6)
 else
 K false)
 else
 K false))
 else
 (if (a0.2.1 == a0.2.2.2.2.2.1) then
 (if (a0.2.2.1 == 0) then
 (if r4 then
 xq31 a0.1 1 4 (fun r7 =>
 K r7)
 else
 K false)
 else
 (if r4 then
 (if (a0.2.2.1 == a0.2.2.2.2.2.1) then
 xq31 a0.1 1 4 (fun r8 =>
 K r8)
 else
 K false)
 else
 K false))
 else
 (if r4 then
 K false
 else
 K false))))
 else
 (if (a0.2.1 == 0) then
 (if (a0.2.2.1 == 0) then
 K false
 else
 K false)
 else
 (if (a0.2.1 == a0.2.2.2.2.2.1) then
 (if (a0.2.2.1 == 0) then
 K false
 else
 K false)
 else
 K false))))
 else
 (if (a0.2.1 == 0) then
 (if (a0.2.2.1 == 0) then
 K false
 else
 K false)
 else
 (if (a0.2.1 == a0.2.2.2.2.2.1) then
 (if (a0.2.2.1 == 0) then
 K false
 else
 K false)
 else
 K false))))
 else
 (if (a0.2.1 == 0) then
 (if (a0.2.2.1 == 0) then
 K false
 else
 K false)
 else
 (if (a0.2.1 == a0.2.2.2.2.2.1) then
 (if (a0.2.2.1 == 0) then
 K false
 else
 K false)
 else
 K false))))
def Xq36:Tq36:=Yq36 Xq31
def Jq36 (X:Tq36):Inst:=mkI 62 pL22 .nil pL1 .nil X
def Iq36:Inst:=Jq36 Xq36
theorem Eq36 (xq31:Tq31):EqF Tryz.prog 54 gives Tryz.f62 [Jq31 xq31] [] (Jq36 (Yq36 xq31)):=fun x y K=>by kernel_rfl
theorem Iq36_ok:InstOk Tryz.prog G.1 Iq36:=iok (gives:=gives) [] (okCons Iq31_ok okNil) 54 follows Tryz.func62 (by kernel_rfl) (fun x=>by kernel_rfl) (Eq36 Xq31)
abbrev Tq2x:Type:=Q15→(Q21→Bool→Prop)→Prop
def Yq2x (xq37:Tq37) (xq36:Tq36) (a0:Q15) (K:Q21→Bool→Prop):Prop :=
 xq37 a0 (fun r1 r2 r3 r4 r5 =>
 (if (!r2) then
 K (0,0,0,0,0,0,0,()) false
 else
 xq36 (a0.2.2.2.2.1,0,0,(↑(List.length a0.2.2.1):Int),(↑(List.length a0.2.1):Int),(↑(List.length a0.1):Int),(↑(ByteArray.size r1):Int),()) (fun r6 =>
 (if (!r6) then
 K (0,0,0,0,0,0,0,()) false
 else
 K (a0.2.2.2.2.1,0,0,(↑(List.length a0.2.2.1):Int),(↑(List.length a0.2.1):Int),(↑(List.length a0.1):Int),(↑(ByteArray.size r1):Int),()) true))))
def Xq2x:Tq2x:=Yq2x Xq37 Xq36
def Jq2x (X:Tq2x):Inst:=mkI 21 pL19 .nil pL23 .nil X
def Iq2x:Inst:=Jq2x Xq2x
theorem Eq2x (xq37:Tq37) (xq36:Tq36):EqF Tryz.prog 37 gives Tryz.f21 [Jq37 xq37,Jq36 xq36] [] (Jq2x (Yq2x xq37 xq36)):=fun x y K=>by kernel_rfl
theorem Iq2x_ok:InstOk Tryz.prog G.1 Iq2x:=iok (gives:=gives) [] (okCons Iq37_ok (okCons Iq36_ok okNil)) 37 follows Tryz.func21 (by kernel_rfl) (fun x=>by kernel_rfl) (Eq2x Xq37 Xq36)
abbrev Tq3y:Type:=Int→Int→(Int→Bool→Prop)→Prop
def Yq3y (a0:Int) (a1:Int) (K:Int→Bool→Prop):Prop :=
 (lt (!decide (w64 (a0 - a1) < a0) == decide (a1 > 0)) fun v2 =>
 (if v2 then
 (if (a1 != 0) then
 K 0 false
 else
 K (w64 (a0 - a1)) true)
 else
 K (w64 (a0 - a1)) true))
def Xq3y:Tq3y:=Yq3y
def Jq3y (X:Tq3y):Inst:=mkI 132 pL24 .nil pL25 .nil X
def Iq3y:Inst:=Jq3y Xq3y
theorem Eq3y:EqF Tryz.prog 21 gives Tryz.f132 [] [] (Jq3y (Yq3y)):=fun x y K=>by kernel_rfl
theorem Iq3y_ok:InstOk Tryz.prog G.1 Iq3y:=iok (gives:=gives) [] okNil 21 follows Tryz.func132 (by kernel_rfl) (fun x=>by kernel_rfl) (Eq3y)
abbrev Tq2k:Type:=(List Eng.V)→(Int→Int→Prop)→Prop
def Lq2k_0 (xq3y:Tq3y) (K:Int→Int→Prop):(Q26→Prop)→Q26→Prop:=fun k1 x2 =>
 (if decide (x2.1.2.2.2.2.2.2.1 < x2.1.2.2.2.2.2.1) then
 (if 0≤x2.1.2.2.2.2.2.2.1∧x2.1.2.2.2.2.2.2.1 < (↑(List.length x2.1.2.2.2.2.1):Int) then
 (Eng.asInt IntKind.i64 (Eng.getC x2.1.2.2.2.2.1 (Int.toNat x2.1.2.2.2.2.2.2.1) (0:Nat)) False fun n3 =>
 (Eng.asInt IntKind.i64 (Eng.getC x2.1.2.2.2.2.1 (Int.toNat x2.1.2.2.2.2.2.2.1) (1:Nat)) False fun n4 =>
 xq3y n4 x2.2.1.2.1 (fun r5 r6 =>
 (if r6 then
 (if (r5 == 0) then
 (if (x2.1.2.2.2.2.2.2.1 == w64 ((↑(List.length x2.1.1):Int) - 1)) then
 (if decide (x2.1.2.2.2.2.2.2.1 > 200) then
 K x2.1.2.2.2.2.2.2.1 8
 else
 (if decide (n3 < 0) then
 K x2.1.2.2.2.2.2.2.1 9
 else
 (if (!x2.1.2.2.2.2.2.2.1 == w64 ((↑(List.length x2.1.1):Int) - 1)) then
 (if (!r6) then
 K x2.1.2.2.2.2.2.2.1 6
 else
 (if (r5 != 1) then
 (if (r5 != (-1)) then
 K x2.1.2.2.2.2.2.2.1 6
 else
 (if decide (x2.1.2.2.2.2.2.2.1 > 0) then
 (if decide (w64 (n3 - x2.2.1.1) < 0) then
 K x2.1.2.2.2.2.2.2.1 7
 else
 k1 ((x2.1.1,x2.1.2.1,x2.1.2.2.1,(),x2.1.2.2.2.2.1,x2.1.2.2.2.2.2.1,w64 (x2.1.2.2.2.2.2.2.1+1),()),(n3,n4,()),()))
 else
 k1 ((x2.1.1,x2.1.2.1,x2.1.2.2.1,(),x2.1.2.2.2.2.1,x2.1.2.2.2.2.2.1,w64 (x2.1.2.2.2.2.2.2.1+1),()),(n3,n4,()),())))
 else
 (if decide (x2.1.2.2.2.2.2.2.1 > 0) then
 (if decide (w64 (n3 - x2.2.1.1) < 0) then
 K x2.1.2.2.2.2.2.2.1 7
 else
 k1 ((x2.1.1,x2.1.2.1,x2.1.2.2.1,(),x2.1.2.2.2.2.1,x2.1.2.2.2.2.2.1,w64 (x2.1.2.2.2.2.2.2.1+1),()),(n3,n4,()),()))
 else
 k1 ((x2.1.1,x2.1.2.1,x2.1.2.2.1,(),x2.1.2.2.2.2.1,x2.1.2.2.2.2.2.1,w64 (x2.1.2.2.2.2.2.2.1+1),()),(n3,n4,()),()))))
 else
 (if decide (x2.1.2.2.2.2.2.2.1 > 0) then
 (if decide (w64 (n3 - x2.2.1.1) < 0) then
 K x2.1.2.2.2.2.2.2.1 7
 else
 k1 ((x2.1.1,x2.1.2.1,x2.1.2.2.1,(),x2.1.2.2.2.2.1,x2.1.2.2.2.2.2.1,w64 (x2.1.2.2.2.2.2.2.1+1),()),(n3,n4,()),()))
 else
 k1 ((x2.1.1,x2.1.2.1,x2.1.2.2.1,(),x2.1.2.2.2.2.1,x2.1.2.2.2.2.2.1,w64 (x2.1.2.2.2.2.2.2.1+1),()),(n3,n4,()),())))))
 else
 (if decide (x2.1.2.2.2.2.2.2.1 > 200) then
 K x2.1.2.2.2.2.2.2.1 8
 else
 (if decide (n3 < 0) then
 K x2.1.2.2.2.2.2.2.1 9
 else
 (if (!x2.1.2.2.2.2.2.2.1 == w64 ((↑(List.length x2.1.1):Int) - 1)) then
 (if (!r6) then
 K x2.1.2.2.2.2.2.2.1 6
 else
 (if (r5 != 1) then
 (if (r5 != (-1)) then
 K x2.1.2.2.2.2.2.2.1 6
 else
 (if decide (x2.1.2.2.2.2.2.2.1 > 0) then
 (if decide (w64 (n3 - x2.2.1.1) < 2419199) then
 K x2.1.2.2.2.2.2.2.1 7
 else
 k1 ((x2.1.1,x2.1.2.1,x2.1.2.2.1,(),x2.1.2.2.2.2.1,x2.1.2.2.2.2.2.1,w64 (x2.1.2.2.2.2.2.2.1+1),()),(n3,n4,()),()))
 else
 k1 ((x2.1.1,x2.1.2.1,x2.1.2.2.1,(),x2.1.2.2.2.2.1,x2.1.2.2.2.2.2.1,w64 (x2.1.2.2.2.2.2.2.1+1),()),(n3,n4,()),())))
 else
 (if decide (x2.1.2.2.2.2.2.2.1 > 0) then
 (if decide (w64 (n3 - x2.2.1.1) < 2419199) then
 K x2.1.2.2.2.2.2.2.1 7
 else
 k1 ((x2.1.1,x2.1.2.1,x2.1.2.2.1,(),x2.1.2.2.2.2.1,x2.1.2.2.2.2.2.1,w64 (x2.1.2.2.2.2.2.2.1+1),()),(n3,n4,()),()))
 else
 k1 ((x2.1.1,x2.1.2.1,x2.1.2.2.1,(),x2.1.2.2.2.2.1,x2.1.2.2.2.2.2.1,w64 (x2.1.2.2.2.2.2.2.1+1),()),(n3,n4,()),()))))
 else
 (if decide (x2.1.2.2.2.2.2.2.1 > 0) then
 (if decide (w64 (n3 - x2.2.1.1) < 2419199) then
 K x2.1.2.2.2.2.2.2.1 7
 else
 k1 ((x2.1.1,x2.1.2.1,x2.1.2.2.1,(),x2.1.2.2.2.2.1,x2.1.2.2.2.2.2.1,w64 (x2.1.2.2.2.2.2.2.1+1),()),(n3,n4,()),()))
 else
 k1 ((x2.1.1,x2.1.2.1,x2.1.2.2.1,(),x2.1.2.2.2.2.1,x2.1.2.2.2.2.2.1,w64 (x2.1.2.2.2.2.2.2.1+1),()),(n3,n4,()),()))))))
 else
 (if decide (x2.1.2.2.2.2.2.2.1 > 200) then
 K x2.1.2.2.2.2.2.2.1 8
 else
 (if decide (n3 < 0) then
 K x2.1.2.2.2.2.2.2.1 9
 else
 (if (!r6) then
 K x2.1.2.2.2.2.2.2.1 6
 else
 (if (r5 != 1) then
 (if (r5 != (-1)) then
 K x2.1.2.2.2.2.2.2.1 6
 else
 (if decide (x2.1.2.2.2.2.2.2.1 > 0) then
 (if decide (w64 (n3 - x2.2.1.1) < 2419199) then
 K x2.1.2.2.2.2.2.2.1 7
 else
 k1 ((x2.1.1,x2.1.2.1,x2.1.2.2.1,(),x2.1.2.2.2.2.1,x2.1.2.2.2.2.2.1,w64 (x2.1.2.2.2.2.2.2.1+1),()),(n3,n4,()),()))
 else
 k1 ((x2.1.1,x2.1.2.1,x2.1.2.2.1,(),x2.1.2.2.2.2.1,x2.1.2.2.2.2.2.1,w64 (x2.1.2.2.2.2.2.2.1+1),()),(n3,n4,()),())))
 else
 (if decide (x2.1.2.2.2.2.2.2.1 > 0) then
 (if decide (w64 (n3 - x2.2.1.1) < 2419199) then
 K x2.1.2.2.2.2.2.2.1 7
 else
 k1 ((x2.1.1,x2.1.2.1,x2.1.2.2.1,(),x2.1.2.2.2.2.1,x2.1.2.2.2.2.2.1,w64 (x2.1.2.2.2.2.2.2.1+1),()),(n3,n4,()),()))
 else
 k1 ((x2.1.1,x2.1.2.1,x2.1.2.2.1,(),x2.1.2.2.2.2.1,x2.1.2.2.2.2.2.1,w64 (x2.1.2.2.2.2.2.2.1+1),()),(n3,n4,()),())))))))
 else
 (if decide (x2.1.2.2.2.2.2.2.1 > 200) then
 K x2.1.2.2.2.2.2.2.1 8
 else
 (if decide (n3 < 0) then
 K x2.1.2.2.2.2.2.2.1 9
 else
 (if (!r6) then
 K x2.1.2.2.2.2.2.2.1 6
 else
 (if (r5 != 1) then
 (if (r5 != (-1)) then
 K x2.1.2.2.2.2.2.2.1 6
 else
 (if decide (x2.1.2.2.2.2.2.2.1 > 0) then
 (if decide (w64 (n3 - x2.2.1.1) < 2419199) then
 K x2.1.2.2.2.2.2.2.1 7
 else
 k1 ((x2.1.1,x2.1.2.1,x2.1.2.2.1,(),x2.1.2.2.2.2.1,x2.1.2.2.2.2.2.1,w64 (x2.1.2.2.2.2.2.2.1+1),()),(n3,n4,()),()))
 else
 k1 ((x2.1.1,x2.1.2.1,x2.1.2.2.1,(),x2.1.2.2.2.2.1,x2.1.2.2.2.2.2.1,w64 (x2.1.2.2.2.2.2.2.1+1),()),(n3,n4,()),())))
 else
 (if decide (x2.1.2.2.2.2.2.2.1 > 0) then
 (if decide (w64 (n3 - x2.2.1.1) < 2419199) then
 K x2.1.2.2.2.2.2.2.1 7
 else
 k1 ((x2.1.1,x2.1.2.1,x2.1.2.2.1,(),x2.1.2.2.2.2.1,x2.1.2.2.2.2.2.1,w64 (x2.1.2.2.2.2.2.2.1+1),()),(n3,n4,()),()))
 else
 k1 ((x2.1.1,x2.1.2.1,x2.1.2.2.1,(),x2.1.2.2.2.2.1,x2.1.2.2.2.2.2.1,w64 (x2.1.2.2.2.2.2.2.1+1),()),(n3,n4,()),()))))))))))
 else
 False)
 else
 K (↑(List.length x2.1.1):Int) 0)
def Lq2k_0p:Lp:=⟨28701,[.trim 28701],pT27,pH28,0⟩
def Yq2k (xq3y:Tq3y) (a0:(List Eng.V)) (K:Int→Int→Prop):Prop :=
 lp (Lq2k_0 xq3y K) ((a0,0,0,(),a0,(↑(List.length a0):Int),0,()),((-2419199),0,()),())
def Xq2k:Tq2k:=Yq2k Xq3y
def Jq2k (X:Tq2k):Inst:=mkI 121 pL29 .nil pL24 .nil X
def Iq2k:Inst:=Jq2k Xq2k
theorem Eq2k (xq3y:Tq3y):EqF Tryz.prog 82 gives Tryz.f121 [Jq3y xq3y] [Lq2k_0p] (Jq2k (Yq2k xq3y)):=fun x y K=>by kernel_rfl
theorem Iq2k_ok:InstOk Tryz.prog G.1 Iq2k:=iok (gives:=gives) [Lq2k_0p] (okCons Iq3y_ok okNil) 82 follows Tryz.func121 (by kernel_rfl) (fun x=>by kernel_rfl) (Eq2k Xq3y)
abbrev Tq2s:Type:=(List Eng.V)→(Bool→Prop)→Prop
def Yq2s (xq2k:Tq2k) (a0:(List Eng.V)) (K:Bool→Prop):Prop :=
 xq2k a0 (fun r1 r2 =>
 K (r2 == 0))
def Xq2s:Tq2s:=Yq2s Xq2k
def Jq2s (X:Tq2s):Inst:=mkI 52 pL29 .nil pL1 .nil X
def Iq2s:Inst:=Jq2s Xq2s
theorem Eq2s (xq2k:Tq2k):EqF Tryz.prog 12 gives Tryz.f52 [Jq2k xq2k] [] (Jq2s (Yq2s xq2k)):=fun x y K=>by kernel_rfl
theorem Iq2s_ok:InstOk Tryz.prog G.1 Iq2s:=iok (gives:=gives) [] (okCons Iq2k_ok okNil) 12 follows Tryz.func52 (by kernel_rfl) (fun x=>by kernel_rfl) (Eq2s Xq2k)
abbrev Tq2r:Type:=(List Eng.V)→((List Eng.V)→Bool→Bool→Prop)→Prop
def Yq2r (a0:(List Eng.V)) (K:(List Eng.V)→Bool→Bool→Prop):Prop :=
 (if (w64 ((↑(List.length a0):Int) - 1) == 0) then
 (if (0 :Int)≤0∧0 < (↑(List.length a0):Int) then
 (Eng.asInt IntKind.i64 (Eng.getC a0 (0:Nat) (1:Nat)) False fun n1 =>
 (if (n1 == 0) then
 (if (n1 == 0) then
 (if 0≤w64 ((↑(List.length a0):Int) - 1)∧w64 ((↑(List.length a0):Int) - 1)≤(↑(List.length a0):Int) then
 (if (0 :Int)≤0∧0≤w64 ((↑(List.length a0):Int) - 1) then
 K (Eng.cutL a0 (0:Nat) (Int.toNat (w64 ((↑(List.length a0):Int) - 1)) - (0:Nat))) false true
 else
 False)
 else
 False)
 else
 K a0 false true)
 else
 (if decide (w64 ((↑(List.length a0):Int) - 1) > 0) then
 (if 0≤w64 ((↑(List.length a0):Int) - 1)∧w64 ((↑(List.length a0):Int) - 1) < (↑(List.length a0):Int) then
 (Eng.asInt IntKind.i64 (Eng.getC a0 (Int.toNat (w64 ((↑(List.length a0):Int) - 1))) (1:Nat)) False fun n2 =>
 (lt (w64 (w64 ((↑(List.length a0):Int) - 1) - 1)) fun v3 =>
 (if 0≤v3∧v3 < (↑(List.length a0):Int) then
 (Eng.asInt IntKind.i64 (Eng.getC a0 (Int.toNat v3) (1:Nat)) False fun n4 =>
 (if (n2 == n4) then
 (if 0≤w64 ((↑(List.length a0):Int) - 1)∧w64 ((↑(List.length a0):Int) - 1)≤(↑(List.length a0):Int) then
 (if (0 :Int)≤0∧0≤w64 ((↑(List.length a0):Int) - 1) then
 K (Eng.cutL a0 (0:Nat) (Int.toNat (w64 ((↑(List.length a0):Int) - 1)) - (0:Nat))) false true
 else
 False)
 else
 False)
 else
 K a0 false true))
 else
 False)))
 else
 False)
 else
 K a0 false true)))
 else
 False)
 else
 (if decide (w64 ((↑(List.length a0):Int) - 1) > 0) then
 (if 0≤w64 ((↑(List.length a0):Int) - 1)∧w64 ((↑(List.length a0):Int) - 1) < (↑(List.length a0):Int) then
 (Eng.asInt IntKind.i64 (Eng.getC a0 (Int.toNat (w64 ((↑(List.length a0):Int) - 1))) (1:Nat)) False fun n5 =>
 (lt (w64 (w64 ((↑(List.length a0):Int) - 1) - 1)) fun v6 =>
 (if 0≤v6∧v6 < (↑(List.length a0):Int) then
 (Eng.asInt IntKind.i64 (Eng.getC a0 (Int.toNat v6) (1:Nat)) False fun n7 =>
 (if (n5 == n7) then
 (if 0≤w64 ((↑(List.length a0):Int) - 1)∧w64 ((↑(List.length a0):Int) - 1)≤(↑(List.length a0):Int) then
 (if (0 :Int)≤0∧0≤w64 ((↑(List.length a0):Int) - 1) then
 K (Eng.cutL a0 (0:Nat) (Int.toNat (w64 ((↑(List.length a0):Int) - 1)) - (0:Nat))) false true
 else
 False)
 else
 False)
 else
 K a0 false true))
 else
 False)))
 else
 False)
 else
 K a0 false true))
def Xq2r:Tq2r:=Yq2r
def Jq2r (X:Tq2r):Inst:=mkI 122 pL29 .nil pL30 pH31 X
def Iq2r:Inst:=Jq2r Xq2r
theorem Eq2r:EqF Tryz.prog 37 gives Tryz.f122 [] [] (Jq2r (Yq2r)):=fun x y K=>by kernel_rfl
theorem Iq2r_ok:InstOk Tryz.prog G.1 Iq2r:=iok (gives:=gives) [] okNil 37 follows Tryz.func122 (by kernel_rfl) (fun x=>by kernel_rfl) (Eq2r)
abbrev Tq2f:Type:=(List Eng.V)→(Int→Bool→Prop)→Prop
def Yq2f (xq2r:Tq2r) (a0:(List Eng.V)) (K:Int→Bool→Prop):Prop :=
 xq2r a0 (fun r1 r2 r3 =>
 (if decide ((↑(List.length r1):Int) < (↑(List.length a0):Int)) then
 (if 0≤(↑(List.length r1):Int)∧(↑(List.length r1):Int) < (↑(List.length a0):Int) then
 (Eng.asInt IntKind.i64 (Eng.getC a0 (Int.toNat (↑(List.length r1):Int)) (0:Nat)) False fun n4 =>
 K n4 true)
 else
 False)
 else
 K 0 false))
def Xq2f:Tq2f:=Yq2f Xq2r
def Jq2f (X:Tq2f):Inst:=mkI 53 pL29 .nil pL25 .nil X
def Iq2f:Inst:=Jq2f Xq2f
theorem Eq2f (xq2r:Tq2r):EqF Tryz.prog 17 gives Tryz.f53 [Jq2r xq2r] [] (Jq2f (Yq2f xq2r)):=fun x y K=>by kernel_rfl
theorem Iq2f_ok:InstOk Tryz.prog G.1 Iq2f:=iok (gives:=gives) [] (okCons Iq2r_ok okNil) 17 follows Tryz.func53 (by kernel_rfl) (fun x=>by kernel_rfl) (Eq2f Xq2r)
abbrev Tq2t:Type:=Int→Q32→(Bool→Prop)→Prop
def Yq2t (a0:Int) (a1:Q32) (K:Bool→Prop):Prop :=
 (if decide (a1.1≥(-89999)) then
 K (decide (a1.1≤93599))
 else
 K false)
def Xq2t:Tq2t:=Yq2t
def Jq2t (X:Tq2t):Inst:=mkI 55 pL33 .nil pL1 .nil X
def Iq2t:Inst:=Jq2t Xq2t
theorem Eq2t:EqF Tryz.prog 13 gives Tryz.f55 [] [] (Jq2t (Yq2t)):=fun x y K=>by kernel_rfl
theorem Iq2t_ok:InstOk Tryz.prog G.1 Iq2t:=iok (gives:=gives) [] okNil 13 follows Tryz.func55 (by kernel_rfl) (fun x=>by kernel_rfl) (Eq2t)
abbrev Tq0t:Type:=(List Eng.V)→(Bool→Prop)→Prop
def Lq0t_0 (xq2t:Tq2t) (K:Bool→Prop):(Q34→Prop)→Q34→Prop:=fun k1 x2 =>
 (if decide (x2.1.2.2.2.2.1 < x2.1.2.2.2.1) then
 (if 0≤x2.1.2.2.2.2.1∧x2.1.2.2.2.2.1 < (↑(List.length x2.1.2.2.1):Int) then
 (Eng.asInt IntKind.i64 (Eng.getC x2.1.2.2.1 (Int.toNat x2.1.2.2.2.2.1) (0:Nat)) False fun n3 =>
 (Eng.asBool (Eng.getC x2.1.2.2.1 (Int.toNat x2.1.2.2.2.2.1) (1:Nat)) False fun b4 =>
 (Eng.asStr (Eng.getC x2.1.2.2.1 (Int.toNat x2.1.2.2.2.2.1) (2:Nat)) False fun t5 =>
 xq2t x2.1.2.2.2.2.1 (n3,b4,t5,()) (fun r6 =>
 (if (!r6) then
 K false
 else
 k1 ((((),()),x2.1.2.1,x2.1.2.2.1,x2.1.2.2.2.1,w64 (x2.1.2.2.2.2.1+1),()),()))))))
 else
 False)
 else
 K true)
def Lq0t_0p:Lp:=⟨914,[.trim 914],pT35,.nil,0⟩
def Yq0t (xq2t:Tq2t) (a0:(List Eng.V)) (K:Bool→Prop):Prop :=
 lp (Lq0t_0 xq2t K) ((((),()),false,a0,(↑(List.length a0):Int),0,()),())
def Xq0t:Tq0t:=Yq0t Xq2t
def Jq0t (X:Tq0t):Inst:=mkI 54 pL36 .nil pL1 .nil X
def Iq0t:Inst:=Jq0t Xq0t
theorem Eq0t (xq2t:Tq2t):EqF Tryz.prog 20 gives Tryz.f54 [Jq2t xq2t] [Lq0t_0p] (Jq0t (Yq0t xq2t)):=fun x y K=>by kernel_rfl
theorem Iq0t_ok:InstOk Tryz.prog G.1 Iq0t:=iok (gives:=gives) [Lq0t_0p] (okCons Iq2t_ok okNil) 20 follows Tryz.func54 (by kernel_rfl) (fun x=>by kernel_rfl) (Eq0t Xq2t)
abbrev Tq2q:Type:=Int→Q37→(List Eng.V)→(List Eng.V)→(List Eng.V)→ByteArray→Int→(Bool→ByteArray→Int→(List Eng.V)→Bool→Bool→(List Eng.V)→Bool→Bool→(List Eng.V)→Bool→Bool→Prop)→Prop
def Yq2q (a0:Int) (a1:Q37) (a2:(List Eng.V)) (a3:(List Eng.V)) (a4:(List Eng.V)) (a5:ByteArray) (a6:Int) (K:Bool→ByteArray→Int→(List Eng.V)→Bool→Bool→(List Eng.V)→Bool→Bool→(List Eng.V)→Bool→Bool→Prop):Prop :=
 (if decide (a1.2.1≥0) then
 (if decide (a1.2.1 < (↑(List.length a2):Int)) then
 (if (a0 == 0) then
 K true a5 a6 a2 false true a3 false true a4 false true
 else
 (if 0≤w64 (a0 - 1)∧w64 (a0 - 1) < (↑(List.length a3):Int) then
 (Eng.asInt IntKind.i64 (Eng.getC a3 (Int.toNat (w64 (a0 - 1))) (0:Nat)) False fun n7 =>
 K (decide (a1.1 > n7)) a5 a6 a2 false true a3 false true a4 false true)
 else
 False))
 else
 K false a5 a6 a2 false true a3 false true a4 false true)
 else
 K false a5 a6 a2 false true a3 false true a4 false true)
def Xq2q:Tq2q:=Yq2q
def Jq2q (X:Tq2q):Inst:=mkI 57 pL38 pH39 pL1 pH40 X
def Iq2q:Inst:=Jq2q Xq2q
theorem Eq2q:EqF Tryz.prog 33 gives Tryz.f57 [] [] (Jq2q (Yq2q)):=fun x y K=>by kernel_rfl
theorem Iq2q_ok:InstOk Tryz.prog G.1 Iq2q:=iok (gives:=gives) [] okNil 33 follows Tryz.func57 (by kernel_rfl) (fun x=>by kernel_rfl) (Eq2q)
abbrev Tq0i:Type:=(List Eng.V)→(List Eng.V)→(List Eng.V)→(List Eng.V)→ByteArray→Int→(Bool→ByteArray→Int→(List Eng.V)→Bool→Bool→(List Eng.V)→Bool→Bool→(List Eng.V)→Bool→Bool→Prop)→Prop
def Lq0i_0 (xq2q:Tq2q) (K:Bool→ByteArray→Int→(List Eng.V)→Bool→Bool→(List Eng.V)→Bool→Bool→(List Eng.V)→Bool→Bool→Prop) (a1:(List Eng.V)) (a2:(List Eng.V)) (a3:(List Eng.V)) (a4:ByteArray) (a5:Int):(Q41→Prop)→Q41→Prop:=fun k6 x7 =>
 (if decide (x7.1.2.2.2.2.1 < x7.1.2.2.2.1) then
 (if 0≤x7.1.2.2.2.2.1∧x7.1.2.2.2.2.1 < (↑(List.length x7.1.2.2.1):Int) then
 (Eng.asInt IntKind.i64 (Eng.getC x7.1.2.2.1 (Int.toNat x7.1.2.2.2.2.1) (0:Nat)) False fun n8 =>
 (Eng.asInt IntKind.i64 (Eng.getC x7.1.2.2.1 (Int.toNat x7.1.2.2.2.2.1) (1:Nat)) False fun n9 =>
 xq2q x7.1.2.2.2.2.1 (n8,n9,()) x7.2.1.1 x7.2.1.2.1 x7.2.1.2.2.1 x7.2.1.2.2.2.1 x7.2.1.2.2.2.2.1 (fun r10 r11 r12 r13 r14 r15 r16 r17 r18 r19 r20 r21 =>
 (if (!r10) then
 K false r11 r12 r13 r14 r15 r16 r17 r18 r19 r20 r21
 else
 k6 ((((),(),()),x7.1.2.1,x7.1.2.2.1,x7.1.2.2.2.1,w64 (x7.1.2.2.2.2.1+1),()),(r13,r16,r19,r11,r12,()),())))))
 else
 False)
 else
 K true x7.2.1.2.2.2.1 x7.2.1.2.2.2.2.1 x7.2.1.1 false true x7.2.1.2.1 false true x7.2.1.2.2.1 false true)
def Lq0i_0p:Lp:=⟨914,[.trim 914,.thin 336,.trim 914,.thin 337,.trim 914,.thin 338,.trim 914],pT42,pH39,0⟩
def Yq0i (xq2q:Tq2q) (a0:(List Eng.V)) (a1:(List Eng.V)) (a2:(List Eng.V)) (a3:(List Eng.V)) (a4:ByteArray) (a5:Int) (K:Bool→ByteArray→Int→(List Eng.V)→Bool→Bool→(List Eng.V)→Bool→Bool→(List Eng.V)→Bool→Bool→Prop):Prop :=
 lp (Lq0i_0 xq2q K a1 a2 a3 a4 a5) ((((),(),()),false,a0,(↑(List.length a0):Int),0,()),(a1,a2,a3,a4,a5,()),())
def Xq0i:Tq0i:=Yq0i Xq2q
def Jq0i (X:Tq0i):Inst:=mkI 56 pL43 pH39 pL1 pH40 X
def Iq0i:Inst:=Jq0i Xq0i
theorem Eq0i (xq2q:Tq2q):EqF Tryz.prog 20 gives Tryz.f56 [Jq2q xq2q] [Lq0i_0p] (Jq0i (Yq0i xq2q)):=fun x y K=>by kernel_rfl
theorem Iq0i_ok:InstOk Tryz.prog G.1 Iq0i:=iok (gives:=gives) [Lq0i_0p] (okCons Iq2q_ok okNil) 20 follows Tryz.func56 (by kernel_rfl) (fun x=>by kernel_rfl) (Eq0i Xq2q)
abbrev Tq3k:Type:=Q32→Bool→(Bool→Prop)→Prop
def Yq3k (xq38:Tq38) (a0:Q32) (a1:Bool) (K:Bool→Prop):Prop :=
 xq38 a0.2.2.1 (fun r2 =>
 (if r2 then
 (if (a0.2.1 == a1) then
 (if decide (a0.1≥(-89999)) then
 K (decide (a0.1≤89999))
 else
 K false)
 else
 K false)
 else
 K false))
def Xq3k:Tq3k:=Yq3k Xq38
def Jq3k (X:Tq3k):Inst:=mkI 212 pL44 .nil pL1 .nil X
def Iq3k:Inst:=Jq3k Xq3k
theorem Eq3k (xq38:Tq38):EqF Tryz.prog 24 gives Tryz.f212 [Jq38 xq38] [] (Jq3k (Yq3k xq38)):=fun x y K=>by kernel_rfl
theorem Iq3k_ok:InstOk Tryz.prog G.1 Iq3k:=iok (gives:=gives) [] (okCons Iq38_ok okNil) 24 follows Tryz.func212 (by kernel_rfl) (fun x=>by kernel_rfl) (Eq3k Xq38)
abbrev Tq2v:Type:=Int→Int→Int→(Bool→Prop)→Prop
def Yq2v (a0:Int) (a1:Int) (a2:Int) (K:Bool→Prop):Prop :=
 (if decide (a0≥a1) then
 K (decide (a0≤a2))
 else
 K false)
def Xq2v:Tq2v:=Yq2v
def Jq2v (X:Tq2v):Inst:=mkI 238 pL20 .nil pL1 .nil X
def Iq2v:Inst:=Jq2v Xq2v
theorem Eq2v:EqF Tryz.prog 15 gives Tryz.f238 [] [] (Jq2v (Yq2v)):=fun x y K=>by kernel_rfl
theorem Iq2v_ok:InstOk Tryz.prog G.1 Iq2v:=iok (gives:=gives) [] okNil 15 follows Tryz.func238 (by kernel_rfl) (fun x=>by kernel_rfl) (Eq2v)
abbrev Tq3e:Type:=Q45→(Bool→Prop)→Prop
def Yq3e (xq2v:Tq2v) (a0:Q45) (K:Bool→Prop):Prop :=
 xq2v a0.2.2.2.2.1 (-604799) 604799 (fun r1 =>
 (if (a0.1 == 0) then
 (if r1 then
 xq2v a0.2.1 1 12 (fun r2 =>
 (if r2 then
 xq2v a0.2.2.1 1 5 (fun r3 =>
 (if r3 then
 xq2v a0.2.2.2.1 0 6 (fun r4 =>
 K r4)
 else
 K false))
 else
 K false))
 else
 K false)
 else
 (if (a0.1 == 1) then
 (if r1 then
 (if decide (a0.2.1 > 0) then
 xq2v a0.2.1 0 365 (fun r5 =>
 (if r5 then
 (if (a0.2.2.1 == 0) then
 K (a0.2.2.2.1 == 0)
 else
 K false)
 else
 K false))
 else
 K false)
 else
 K false)
 else
 (if (a0.1 == 2) then
 (if r1 then
 xq2v a0.2.1 0 365 (fun r6 =>
 (if r6 then
 (if (a0.2.2.1 == 0) then
 K (a0.2.2.2.1 == 0)
 else
 K false)
 else
 K false))
 else
 K false)
 else
 K false))))
def Xq3e:Tq3e:=Yq3e Xq2v
def Jq3e (X:Tq3e):Inst:=mkI 213 pL46 .nil pL1 .nil X
def Iq3e:Inst:=Jq3e Xq3e
theorem Eq3e (xq2v:Tq2v):EqF Tryz.prog 53 gives Tryz.f213 [Jq2v xq2v] [] (Jq3e (Yq3e xq2v)):=fun x y K=>by kernel_rfl
theorem Iq3e_ok:InstOk Tryz.prog G.1 Iq3e:=iok (gives:=gives) [] (okCons Iq2v_ok okNil) 53 follows Tryz.func213 (by kernel_rfl) (fun x=>by kernel_rfl) (Eq3e Xq2v)
abbrev Tq3b:Type:=Q47→(Bool→Prop)→Prop
def Yq3b (xq3k:Tq3k) (xq3e:Tq3e) (a0:Q47) (K:Bool→Prop):Prop :=
 xq3k (a0.1,a0.2.1,a0.2.2.1,()) false (fun r1 =>
 (if (!r1) then
 K false
 else
 (if a0.2.2.2.2.2.2.1 then
 xq3k (a0.2.2.2.1,a0.2.2.2.2.1,a0.2.2.2.2.2.1,()) true (fun r2 =>
 (if r2 then
 xq3e (a0.2.2.2.2.2.2.2.1,a0.2.2.2.2.2.2.2.2.1,a0.2.2.2.2.2.2.2.2.2.1,a0.2.2.2.2.2.2.2.2.2.2.1,a0.2.2.2.2.2.2.2.2.2.2.2.1,()) (fun r3 =>
 (if r3 then
 xq3e a0.2.2.2.2.2.2.2.2.2.2.2.2 (fun r4 =>
 K r4)
 else
 K false))
 else
 K false))
 else
 (lt (a0.1 == a0.1 && (a0.2.1 == a0.2.1 && (ByteArray.toList a0.2.2.1 == ByteArray.toList a0.2.2.1 && true)) && (a0.2.2.2.1 == 0 && (a0.2.2.2.2.1 == false && (ByteArray.toList a0.2.2.2.2.2.1 == ByteArray.toList (ByteArray.mk #[]) && true)) && (a0.2.2.2.2.2.2.1 == false && (a0.2.2.2.2.2.2.2.1 == 0 && (a0.2.2.2.2.2.2.2.2.1 == 0 && (a0.2.2.2.2.2.2.2.2.2.1 == 0 && (a0.2.2.2.2.2.2.2.2.2.2.1 == 0 && (a0.2.2.2.2.2.2.2.2.2.2.2.1 == 0 && true)))) && (a0.2.2.2.2.2.2.2.2.2.2.2.2.1 == 0 && (a0.2.2.2.2.2.2.2.2.2.2.2.2.2.1 == 0 && (a0.2.2.2.2.2.2.2.2.2.2.2.2.2.2.1 == 0 && (a0.2.2.2.2.2.2.2.2.2.2.2.2.2.2.2.1 == 0 && (a0.2.2.2.2.2.2.2.2.2.2.2.2.2.2.2.2.1 == 0 && true)))) && true))))) fun v5 =>
 K v5))))
def Xq3b:Tq3b:=Yq3b Xq3k Xq3e
def Jq3b (X:Tq3b):Inst:=mkI 177 pL48 .nil pL1 .nil X
def Iq3b:Inst:=Jq3b Xq3b
theorem Eq3b (xq3k:Tq3k) (xq3e:Tq3e):EqF Tryz.prog 27 gives Tryz.f177 [Jq3k xq3k,Jq3e xq3e] [] (Jq3b (Yq3b xq3k xq3e)):=fun x y K=>by kernel_rfl
theorem Iq3b_ok:InstOk Tryz.prog G.1 Iq3b:=iok (gives:=gives) [] (okCons Iq3k_ok (okCons Iq3e_ok okNil)) 27 follows Tryz.func177 (by kernel_rfl) (fun x=>by kernel_rfl) (Eq3b Xq3k Xq3e)
abbrev Tq04:Type:=ByteArray→ByteArray→(Bool→Prop)→Prop
def Yq04 (a0:ByteArray) (a1:ByteArray) (K:Bool→Prop):Prop :=
 (if decide ((↑(ByteArray.size a0):Int)≥(↑(ByteArray.size a1):Int)) then
 (if 0≤(↑(ByteArray.size a1):Int)∧(↑(ByteArray.size a1):Int)≤(↑(ByteArray.size a0):Int) then
 K (ByteArray.toList (ByteArray.extract a0 (0:Nat) (Int.toNat (↑(ByteArray.size a1):Int))) == ByteArray.toList a1)
 else
 False)
 else
 K false)
def Xq04:Tq04:=Yq04
def Jq04 (X:Tq04):Inst:=mkI 228 pL49 .nil pL1 .nil X
def Iq04:Inst:=Jq04 Xq04
theorem Eq04:EqF Tryz.prog 18 gives Tryz.f228 [] [] (Jq04 (Yq04)):=fun x y K=>by kernel_rfl
theorem Iq04_ok:InstOk Tryz.prog G.1 Iq04:=iok (gives:=gives) [] okNil 18 follows Tryz.func228 (by kernel_rfl) (fun x=>by kernel_rfl) (Eq04)
abbrev Tq05:Type:=ByteArray→ByteArray→(ByteArray→Bool→Prop)→Prop
def Yq05 (xq04:Tq04) (a0:ByteArray) (a1:ByteArray) (K:ByteArray→Bool→Prop):Prop :=
 xq04 a0 a1 (fun r2 =>
 (if (!r2) then
 K a0 false
 else
 (if 0≤(↑(ByteArray.size a0):Int)∧(↑(ByteArray.size a0):Int)≤(↑(ByteArray.size a0):Int) then
 (if 0≤(↑(ByteArray.size a1):Int)∧(↑(ByteArray.size a1):Int)≤(↑(ByteArray.size a0):Int) then
 K (ByteArray.extract a0 (Int.toNat (↑(ByteArray.size a1):Int)) (Int.toNat (↑(ByteArray.size a0):Int))) true
 else
 False)
 else
 False)))
def Xq05:Tq05:=Yq05 Xq04
def Jq05 (X:Tq05):Inst:=mkI 206 pL49 .nil pL50 .nil X
def Iq05:Inst:=Jq05 Xq05
theorem Eq05 (xq04:Tq04):EqF Tryz.prog 15 gives Tryz.f206 [Jq04 xq04] [] (Jq05 (Yq05 xq04)):=fun x y K=>by kernel_rfl
theorem Iq05_ok:InstOk Tryz.prog G.1 Iq05:=iok (gives:=gives) [] (okCons Iq04_ok okNil) 15 follows Tryz.func206 (by kernel_rfl) (fun x=>by kernel_rfl) (Eq05 Xq04)
abbrev Tq0u:Type:=ByteArray→ByteArray→(ByteArray→Bool→Prop)→Prop
def Yq0u (xq05:Tq05) (a0:ByteArray) (a1:ByteArray) (K:ByteArray→Bool→Prop):Prop :=
 xq05 a0 a1 (fun r2 r3 =>
 K r2 r3)
def Xq0u:Tq0u:=Yq0u Xq05
def Jq0u (X:Tq0u):Inst:=mkI 165 pL49 .nil pL50 .nil X
def Iq0u:Inst:=Jq0u Xq0u
theorem Eq0u (xq05:Tq05):EqF Tryz.prog 11 gives Tryz.f165 [Jq05 xq05] [] (Jq0u (Yq0u xq05)):=fun x y K=>by kernel_rfl
theorem Iq0u_ok:InstOk Tryz.prog G.1 Iq0u:=iok (gives:=gives) [] (okCons Iq05_ok okNil) 11 follows Tryz.func165 (by kernel_rfl) (fun x=>by kernel_rfl) (Eq0u Xq05)
abbrev Tq0a:Type:=ByteArray→ByteArray→(Int→Prop)→Prop
def Yq0a (xq3o:Tq3o) (a0:ByteArray) (a1:ByteArray) (K:Int→Prop):Prop :=
 (if ((↑(ByteArray.size a1):Int) == 0) then
 K 0
 else
 (if (ByteArray.toList a1 == ByteArray.toList a0) then
 K 0
 else
 (if ((↑(ByteArray.size a1):Int) == 1) then
 (if (0 :Int)≤0∧0 < (↑(ByteArray.size a1):Int) then
 xq3o a0 (Eng.bAt a1 (0:Nat)) (fun r2 =>
 K r2)
 else
 False)
 else
 (if decide ((↑(ByteArray.size a1):Int)≥(↑(ByteArray.size a0):Int)) then
 K (-1)
 else
 False))))
def Xq0a:Tq0a:=Yq0a Xq3o
def Jq0a (X:Tq0a):Inst:=mkI 189 pL49 .nil pL6 .nil X
def Iq0a:Inst:=Jq0a Xq0a
theorem Eq0a (xq3o:Tq3o):EqF Tryz.prog 143 gives Tryz.f189 [Jq3o xq3o] [] (Jq0a (Yq0a xq3o)):=fun x y K=>by kernel_rfl
theorem Iq0a_ok:InstOk Tryz.prog G.1 Iq0a:=iok (gives:=gives) [] (okCons Iq3o_ok okNil) 143 follows Tryz.func189 (by kernel_rfl) (fun x=>by kernel_rfl) (Eq0a Xq3o)
abbrev Tq0c:Type:=ByteArray→ByteArray→(ByteArray→ByteArray→Bool→Prop)→Prop
def Yq0c (xq0a:Tq0a) (a0:ByteArray) (a1:ByteArray) (K:ByteArray→ByteArray→Bool→Prop):Prop :=
 xq0a a0 a1 (fun r2 =>
 (if decide (r2≥0) then
 (if 0≤r2∧r2≤(↑(ByteArray.size a0):Int) then
 (if (0 :Int)≤0∧0≤r2 then
 (if 0≤(↑(ByteArray.size a0):Int)∧(↑(ByteArray.size a0):Int)≤(↑(ByteArray.size a0):Int) then
 (if 0≤w64 (r2+(↑(ByteArray.size a1):Int))∧w64 (r2+(↑(ByteArray.size a1):Int))≤(↑(ByteArray.size a0):Int) then
 (lt (ByteArray.extract a0 (Int.toNat (w64 (r2+(↑(ByteArray.size a1):Int)))) (Int.toNat (↑(ByteArray.size a0):Int))) fun v3 =>
 K (ByteArray.extract a0 (0:Nat) (Int.toNat r2)) v3 true)
 else
 False)
 else
 False)
 else
 False)
 else
 False)
 else
 K a0 (ByteArray.mk #[]) false))
def Xq0c:Tq0c:=Yq0c Xq0a
def Jq0c (X:Tq0c):Inst:=mkI 150 pL49 .nil pL51 .nil X
def Iq0c:Inst:=Jq0c Xq0c
theorem Eq0c (xq0a:Tq0a):EqF Tryz.prog 23 gives Tryz.f150 [Jq0a xq0a] [] (Jq0c (Yq0c xq0a)):=fun x y K=>by kernel_rfl
theorem Iq0c_ok:InstOk Tryz.prog G.1 Iq0c:=iok (gives:=gives) [] (okCons Iq0a_ok okNil) 23 follows Tryz.func150 (by kernel_rfl) (fun x=>by kernel_rfl) (Eq0c Xq0a)
abbrev Tq2y:Type:=ByteArray→ByteArray→(ByteArray→ByteArray→Bool→Prop)→Prop
def Yq2y (xq0c:Tq0c) (a0:ByteArray) (a1:ByteArray) (K:ByteArray→ByteArray→Bool→Prop):Prop :=
 xq0c a0 a1 (fun r2 r3 r4 =>
 K r2 r3 r4)
def Xq2y:Tq2y:=Yq2y Xq0c
def Jq2y (X:Tq2y):Inst:=mkI 89 pL49 .nil pL51 .nil X
def Iq2y:Inst:=Jq2y Xq2y
theorem Eq2y (xq0c:Tq0c):EqF Tryz.prog 13 gives Tryz.f89 [Jq0c xq0c] [] (Jq2y (Yq2y xq0c)):=fun x y K=>by kernel_rfl
theorem Iq2y_ok:InstOk Tryz.prog G.1 Iq2y:=iok (gives:=gives) [] (okCons Iq0c_ok okNil) 13 follows Tryz.func89 (by kernel_rfl) (fun x=>by kernel_rfl) (Eq2y Xq0c)
abbrev Tq3d:Type:=Int→(Bool→Prop)→Prop
def Yq3d (a0:Int) (K:Bool→Prop):Prop :=
 (if decide (a0≥97) then
 (if decide (a0≤122) then
 K true
 else
 (if decide (a0≥65) then
 K (decide (a0≤90))
 else
 K false))
 else
 (if decide (a0≥65) then
 K (decide (a0≤90))
 else
 K false))
def Xq3d:Tq3d:=Yq3d
def Jq3d (X:Tq3d):Inst:=mkI 231 pL0 .nil pL1 .nil X
def Iq3d:Inst:=Jq3d Xq3d
theorem Eq3d:EqF Tryz.prog 17 gives Tryz.f231 [] [] (Jq3d (Yq3d)):=fun x y K=>by kernel_rfl
theorem Iq3d_ok:InstOk Tryz.prog G.1 Iq3d:=iok (gives:=gives) [] okNil 17 follows Tryz.func231 (by kernel_rfl) (fun x=>by kernel_rfl) (Eq3d)
abbrev Tq0r:Type:=Int→(Bool→Prop)→Prop
def Yq0r (xq3d:Tq3d) (a0:Int) (K:Bool→Prop):Prop :=
 xq3d a0 (fun r1 =>
 K !r1)
def Xq0r:Tq0r:=Yq0r Xq3d
def Jq0r (X:Tq0r):Inst:=mkI 230 pL0 .nil pL1 .nil X
def Iq0r:Inst:=Jq0r Xq0r
theorem Eq0r (xq3d:Tq3d):EqF Tryz.prog 6 gives Tryz.f230 [Jq3d xq3d] [] (Jq0r (Yq0r xq3d)):=fun x y K=>by kernel_rfl
theorem Iq0r_ok:InstOk Tryz.prog G.1 Iq0r:=iok (gives:=gives) [] (okCons Iq3d_ok okNil) 6 follows Tryz.func230 (by kernel_rfl) (fun x=>by kernel_rfl) (Eq0r Xq3d)
abbrev Tq0l:Type:=ByteArray→Bool→(Int→Prop)→Prop
def Lq0l_0 (xq0r:Tq0r) (K:Int→Prop):(Q2→Prop)→Q2→Prop:=fun k2 x3 =>
 (if x3.2.1.2 < ByteArray.size x3.2.1.1 then
 xq0r (↑(Prod.fst (Go.Utf8.decode x3.2.1.1 x3.2.1.2)):Int) (fun r4 =>
 (if (r4 == x3.1.2.1) then
 K (↑(x3.2.1.2):Int)
 else
 k2 ((((),()),x3.1.2.1,x3.1.2.2.1,(),()),(x3.2.1.1,x3.2.1.2+Prod.snd (Go.Utf8.decode x3.2.1.1 x3.2.1.2)),())))
 else
 K (-1))
def Lq0l_0p:Lp:=⟨1094,[.trim 1094],pT52,pH4,0⟩
def Yq0l (xq0r:Tq0r) (a0:ByteArray) (a1:Bool) (K:Int→Prop):Prop :=
 lp (Lq0l_0 xq0r K) ((((),()),a1,0,(),()),(a0,(0:Nat)),())
def Xq0l:Tq0l:=Yq0l Xq0r
def Jq0l (X:Tq0l):Inst:=mkI 217 pL53 .nil pL6 .nil X
def Iq0l:Inst:=Jq0l Xq0l
theorem Eq0l (xq0r:Tq0r):EqF Tryz.prog 21 gives Tryz.f217 [Jq0r xq0r] [Lq0l_0p] (Jq0l (Yq0l xq0r)):=fun x y K=>by kernel_rfl
theorem Iq0l_ok:InstOk Tryz.prog G.1 Iq0l:=iok (gives:=gives) [Lq0l_0p] (okCons Iq0r_ok okNil) 21 follows Tryz.func217 (by kernel_rfl) (fun x=>by kernel_rfl) (Eq0l Xq0r)
abbrev Tq0k:Type:=ByteArray→(Int→Prop)→Prop
def Yq0k (xq0l:Tq0l) (a0:ByteArray) (K:Int→Prop):Prop :=
 xq0l a0 true (fun r1 =>
 K r1)
def Xq0k:Tq0k:=Yq0k Xq0l
def Jq0k (X:Tq0k):Inst:=mkI 187 pL54 .nil pL6 .nil X
def Iq0k:Inst:=Jq0k Xq0k
theorem Eq0k (xq0l:Tq0l):EqF Tryz.prog 8 gives Tryz.f187 [Jq0l xq0l] [] (Jq0k (Yq0k xq0l)):=fun x y K=>by kernel_rfl
theorem Iq0k_ok:InstOk Tryz.prog G.1 Iq0k:=iok (gives:=gives) [] (okCons Iq0l_ok okNil) 8 follows Tryz.func187 (by kernel_rfl) (fun x=>by kernel_rfl) (Eq0k Xq0l)
abbrev Tq1d:Type:=ByteArray→Int→Bool→ByteArray→Int→Bool→ByteArray→Bool→Int→Int→Int→Int→Int→Int→Int→Int→Int→Int→(ByteArray→Bool→ByteArray→Int→Bool→ByteArray→Int→Bool→ByteArray→Bool→Int→Int→Int→Int→Int→Int→Int→Int→Int→Int→Prop)→Prop
def Yq1d (xq0u:Tq0u) (xq2y:Tq2y) (xq38:Tq38) (xq0k:Tq0k) (a0:ByteArray) (a1:Int) (a2:Bool) (a3:ByteArray) (a4:Int) (a5:Bool) (a6:ByteArray) (a7:Bool) (a8:Int) (a9:Int) (a10:Int) (a11:Int) (a12:Int) (a13:Int) (a14:Int) (a15:Int) (a16:Int) (a17:Int) (K:ByteArray→Bool→ByteArray→Int→Bool→ByteArray→Int→Bool→ByteArray→Bool→Int→Int→Int→Int→Int→Int→Int→Int→Int→Int→Prop):Prop :=
 xq0u a0 (ByteArray.mk #[(60:UInt8)]) (fun r18 r19 =>
 (if r19 then
 xq2y r18 (ByteArray.mk #[(62:UInt8)]) (fun r20 r21 r22 =>
 (if r22 then
 xq38 r20 (fun r23 =>
 K r20 r23 r21 a1 a2 a3 a4 a5 a6 a7 a8 a9 a10 a11 a12 a13 a14 a15 a16 a17)
 else
 K r20 false r21 a1 a2 a3 a4 a5 a6 a7 a8 a9 a10 a11 a12 a13 a14 a15 a16 a17))
 else
 xq0k a0 (fun r24 =>
 (if decide (r24 < 0) then
 (if 0≤(↑(ByteArray.size a0):Int)∧(↑(ByteArray.size a0):Int)≤(↑(ByteArray.size a0):Int) then
 (if 0≤(↑(ByteArray.size a0):Int)∧(↑(ByteArray.size a0):Int)≤(↑(ByteArray.size a0):Int) then
 (if 0≤(↑(ByteArray.size a0):Int)∧(↑(ByteArray.size a0):Int)≤(↑(ByteArray.size a0):Int) then
 xq38 (ByteArray.extract a0 (0:Nat) (Int.toNat (↑(ByteArray.size a0):Int))) (fun r25 =>
 K (ByteArray.extract a0 (0:Nat) (Int.toNat (↑(ByteArray.size a0):Int))) r25 (ByteArray.extract a0 (Int.toNat (↑(ByteArray.size a0):Int)) (Int.toNat (↑(ByteArray.size a0):Int))) a1 a2 a3 a4 a5 a6 a7 a8 a9 a10 a11 a12 a13 a14 a15 a16 a17)
 else
 False)
 else
 False)
 else
 False)
 else
 (if 0≤r24∧r24≤(↑(ByteArray.size a0):Int) then
 (if (0 :Int)≤0∧0≤r24 then
 (if 0≤(↑(ByteArray.size a0):Int)∧(↑(ByteArray.size a0):Int)≤(↑(ByteArray.size a0):Int) then
 (if 0≤r24∧r24≤(↑(ByteArray.size a0):Int) then
 xq38 (ByteArray.extract a0 (0:Nat) (Int.toNat r24)) (fun r26 =>
 K (ByteArray.extract a0 (0:Nat) (Int.toNat r24)) r26 (ByteArray.extract a0 (Int.toNat r24) (Int.toNat (↑(ByteArray.size a0):Int))) a1 a2 a3 a4 a5 a6 a7 a8 a9 a10 a11 a12 a13 a14 a15 a16 a17)
 else
 False)
 else
 False)
 else
 False)
 else
 False)))))
def Xq1d:Tq1d:=Yq1d Xq0u Xq2y Xq38 Xq0k
def Jq1d (X:Tq1d):Inst:=mkI 209 pL55 pH56 pL50 pH56 X
def Iq1d:Inst:=Jq1d Xq1d
theorem Eq1d (xq0u:Tq0u) (xq2y:Tq2y) (xq38:Tq38) (xq0k:Tq0k):EqF Tryz.prog 61 gives Tryz.f209 [Jq0u xq0u,Jq2y xq2y,Jq38 xq38,Jq0k xq0k] [] (Jq1d (Yq1d xq0u xq2y xq38 xq0k)):=fun x y K=>by kernel_rfl
theorem Iq1d_ok:InstOk Tryz.prog G.1 Iq1d:=iok (gives:=gives) [] (okCons Iq0u_ok (okCons Iq2y_ok (okCons Iq38_ok (okCons Iq0k_ok okNil)))) 61 follows Tryz.func209 (by kernel_rfl) (fun x=>by kernel_rfl) (Eq1d Xq0u Xq2y Xq38 Xq0k)
abbrev Tq03:Type:=ByteArray→ByteArray→(ByteArray→Prop)→Prop
def Yq03 (xq04:Tq04) (a0:ByteArray) (a1:ByteArray) (K:ByteArray→Prop):Prop :=
 xq04 a0 a1 (fun r2 =>
 (if r2 then
 (if 0≤(↑(ByteArray.size a0):Int)∧(↑(ByteArray.size a0):Int)≤(↑(ByteArray.size a0):Int) then
 (if 0≤(↑(ByteArray.size a1):Int)∧(↑(ByteArray.size a1):Int)≤(↑(ByteArray.size a0):Int) then
 K (ByteArray.extract a0 (Int.toNat (↑(ByteArray.size a1):Int)) (Int.toNat (↑(ByteArray.size a0):Int)))
 else
 False)
 else
 False)
 else
 K a0))
def Xq03:Tq03:=Yq03 Xq04
def Jq03 (X:Tq03):Inst:=mkI 251 pL49 .nil pL8 .nil X
def Iq03:Inst:=Jq03 Xq03
theorem Eq03 (xq04:Tq04):EqF Tryz.prog 13 gives Tryz.f251 [Jq04 xq04] [] (Jq03 (Yq03 xq04)):=fun x y K=>by kernel_rfl
theorem Iq03_ok:InstOk Tryz.prog G.1 Iq03:=iok (gives:=gives) [] (okCons Iq04_ok okNil) 13 follows Tryz.func251 (by kernel_rfl) (fun x=>by kernel_rfl) (Eq03 Xq04)
abbrev Tq0s:Type:=ByteArray→ByteArray→(ByteArray→Prop)→Prop
def Yq0s (xq03:Tq03) (a0:ByteArray) (a1:ByteArray) (K:ByteArray→Prop):Prop :=
 xq03 a0 a1 (fun r2 =>
 K r2)
def Xq0s:Tq0s:=Yq0s Xq03
def Jq0s (X:Tq0s):Inst:=mkI 232 pL49 .nil pL8 .nil X
def Iq0s:Inst:=Jq0s Xq0s
theorem Eq0s (xq03:Tq03):EqF Tryz.prog 8 gives Tryz.f232 [Jq03 xq03] [] (Jq0s (Yq0s xq03)):=fun x y K=>by kernel_rfl
theorem Iq0s_ok:InstOk Tryz.prog G.1 Iq0s:=iok (gives:=gives) [] (okCons Iq03_ok okNil) 8 follows Tryz.func232 (by kernel_rfl) (fun x=>by kernel_rfl) (Eq0s Xq03)
abbrev Tq2w:Type:=ByteArray→(Int→Prop)→Prop
def Lq2w_0 (K:Int→Prop):(Q57→Prop)→Q57→Prop:=fun k1 x2 =>
 (if x2.2.1.2 < ByteArray.size x2.2.1.1 then
 (if decide ((↑(Prod.fst (Go.Utf8.decode x2.2.1.1 x2.2.1.2)):Int) < 48) then
 K (↑(x2.2.1.2):Int)
 else
 (if decide ((↑(Prod.fst (Go.Utf8.decode x2.2.1.1 x2.2.1.2)):Int) > 57) then
 K (↑(x2.2.1.2):Int)
 else
 k1 ((x2.1.1,x2.1.2.1,(),()),(x2.2.1.1,x2.2.1.2+Prod.snd (Go.Utf8.decode x2.2.1.1 x2.2.1.2)),())))
 else
 K (↑(ByteArray.size x2.1.1):Int))
def Lq2w_0p:Lp:=⟨69,[.trim 69],pT58,pH59,0⟩
def Yq2w (a0:ByteArray) (K:Int→Prop):Prop :=
 lp (Lq2w_0 K) ((a0,0,(),()),(a0,(0:Nat)),())
def Xq2w:Tq2w:=Yq2w
def Jq2w (X:Tq2w):Inst:=mkI 233 pL8 .nil pL6 .nil X
def Iq2w:Inst:=Jq2w Xq2w
theorem Eq2w:EqF Tryz.prog 20 gives Tryz.f233 [] [Lq2w_0p] (Jq2w (Yq2w)):=fun x y K=>by kernel_rfl
theorem Iq2w_ok:InstOk Tryz.prog G.1 Iq2w:=iok (gives:=gives) [Lq2w_0p] okNil 20 follows Tryz.func233 (by kernel_rfl) (fun x=>by kernel_rfl) (Eq2w)
abbrev Tq39:Type:=ByteArray→(Int→ByteArray→Bool→Prop)→Prop
def Yq39 (xq2w:Tq2w) (xatoi:Tatoi) (a0:ByteArray) (K:Int→ByteArray→Bool→Prop):Prop :=
 (if decide ((↑(ByteArray.size a0):Int) < 3) then
 K 0 a0 false
 else
 (if (0 :Int)≤0∧0 < (↑(ByteArray.size a0):Int) then
 (if (Eng.bAt a0 (0:Nat) != 58) then
 K 0 a0 false
 else
 (if 0≤(↑(ByteArray.size a0):Int)∧(↑(ByteArray.size a0):Int)≤(↑(ByteArray.size a0):Int) then
 (if (0 :Int)≤1∧1≤(↑(ByteArray.size a0):Int) then
 xq2w (ByteArray.extract a0 (1:Nat) (Int.toNat (↑(ByteArray.size a0):Int))) (fun r1 =>
 (if decide (r1 < 2) then
 K 0 a0 false
 else
 (if (0 :Int)≤1∧1 < (↑(ByteArray.size a0):Int) then
 (if decide (Eng.bAt a0 (1:Nat) > 53) then
 K 0 a0 false
 else
 (if (0 :Int)≤3∧3≤(↑(ByteArray.size a0):Int) then
 xatoi (ByteArray.extract a0 (1:Nat) (3:Nat)) (fun r2 r3 =>
 (if 0≤(↑(ByteArray.size a0):Int)∧(↑(ByteArray.size a0):Int)≤(↑(ByteArray.size a0):Int) then
 (if (0 :Int)≤3∧3≤(↑(ByteArray.size a0):Int) then
 K r2 (ByteArray.extract a0 (3:Nat) (Int.toNat (↑(ByteArray.size a0):Int))) true
 else
 False)
 else
 False))
 else
 False))
 else
 False)))
 else
 False)
 else
 False))
 else
 False))
def Xq39:Tq39:=Yq39 Xq2w Xatoi
def Jq39 (X:Tq39):Inst:=mkI 235 pL8 .nil pL60 .nil X
def Iq39:Inst:=Jq39 Xq39
theorem Eq39 (xq2w:Tq2w) (xatoi:Tatoi):EqF Tryz.prog 34 gives Tryz.f235 [Jq2w xq2w,Jatoi xatoi] [] (Jq39 (Yq39 xq2w xatoi)):=fun x y K=>by kernel_rfl
theorem Iq39_ok:InstOk Tryz.prog G.1 Iq39:=iok (gives:=gives) [] (okCons Iq2w_ok (okCons Iatoi_ok okNil)) 34 follows Tryz.func235 (by kernel_rfl) (fun x=>by kernel_rfl) (Eq39 Xq2w Xatoi)
abbrev Tq3h:Type:=ByteArray→Bool→(Int→ByteArray→Bool→Prop)→Prop
def Yq3h (xq39:Tq39) (a0:ByteArray) (a1:Bool) (K:Int→ByteArray→Bool→Prop):Prop :=
 (if (!a1) then
 K 0 a0 false
 else
 xq39 a0 (fun r2 r3 r4 =>
 K r2 r3 r4))
def Xq3h:Tq3h:=Yq3h Xq39
def Jq3h (X:Tq3h):Inst:=mkI 236 pL50 .nil pL60 .nil X
def Iq3h:Inst:=Jq3h Xq3h
theorem Eq3h (xq39:Tq39):EqF Tryz.prog 15 gives Tryz.f236 [Jq39 xq39] [] (Jq3h (Yq3h xq39)):=fun x y K=>by kernel_rfl
theorem Iq3h_ok:InstOk Tryz.prog G.1 Iq3h:=iok (gives:=gives) [] (okCons Iq39_ok okNil) 15 follows Tryz.func236 (by kernel_rfl) (fun x=>by kernel_rfl) (Eq3h Xq39)
abbrev Tq3t:Type:=ByteArray→(Int→ByteArray→Bool→Prop)→Prop
def Yq3t (xq0s:Tq0s) (xq2w:Tq2w) (xatoi:Tatoi) (xq39:Tq39) (xq3h:Tq3h) (a0:ByteArray) (K:Int→ByteArray→Bool→Prop):Prop :=
 xq0s a0 (ByteArray.mk #[(45:UInt8)]) (fun r1 =>
 (if ((↑(ByteArray.size r1):Int) == (↑(ByteArray.size a0):Int)) then
 xq0s a0 (ByteArray.mk #[(43:UInt8)]) (fun r2 =>
 xq2w r2 (fun r3 =>
 (if ((if 3 < r3 then 3 else r3) == 0) then
 K 0 a0 false
 else
 (if (0≤if 3 < r3 then 3 else r3)∧(if 3 < r3 then 3 else r3)≤(↑(ByteArray.size r2):Int) then
 (if (0 :Int)≤0∧0≤if 3 < r3 then 3 else r3 then
 xatoi (ByteArray.extract r2 (0:Nat) (Int.toNat (if 3 < r3 then 3 else r3))) (fun r4 r5 =>
 (if decide (r4 > 167) then
 (if 0≤(↑(ByteArray.size r2):Int)∧(↑(ByteArray.size r2):Int)≤(↑(ByteArray.size r2):Int) then
 (if 0≤w64 ((if 3 < r3 then 3 else r3) - 1)∧w64 ((if 3 < r3 then 3 else r3) - 1)≤(↑(ByteArray.size r2):Int) then
 (lt (ByteArray.extract r2 (Int.toNat (w64 ((if 3 < r3 then 3 else r3) - 1))) (Int.toNat (↑(ByteArray.size r2):Int))) fun v6 =>
 xq39 v6 (fun r7 r8 r9 =>
 xq3h r8 r9 (fun r10 r11 r12 =>
 (lt (w64 (w64 (Int.tdiv r4 10) * 3600)) fun v13 =>
 (lt (w64 (v13+w64 (r7 * 60))) fun v14 =>
 (lt (w64 (1 * w64 (v14+r10))) fun v15 =>
 K v15 r11 true))))))
 else
 False)
 else
 False)
 else
 (if 0≤(↑(ByteArray.size r2):Int)∧(↑(ByteArray.size r2):Int)≤(↑(ByteArray.size r2):Int) then
 (if (0≤if 3 < r3 then 3 else r3)∧(if 3 < r3 then 3 else r3)≤(↑(ByteArray.size r2):Int) then
 xq39 (ByteArray.extract r2 (Int.toNat (if 3 < r3 then 3 else r3)) (Int.toNat (↑(ByteArray.size r2):Int))) (fun r16 r17 r18 =>
 xq3h r17 r18 (fun r19 r20 r21 =>
 (lt (w64 (w64 (r4 * 3600)+w64 (r16 * 60))) fun v22 =>
 (lt (w64 (1 * w64 (v22+r19))) fun v23 =>
 K v23 r20 true))))
 else
 False)
 else
 False)))
 else
 False)
 else
 False))))
 else
 xq2w r1 (fun r24 =>
 (if ((if 3 < r24 then 3 else r24) == 0) then
 K 0 a0 false
 else
 (if (0≤if 3 < r24 then 3 else r24)∧(if 3 < r24 then 3 else r24)≤(↑(ByteArray.size r1):Int) then
 (if (0 :Int)≤0∧0≤if 3 < r24 then 3 else r24 then
 xatoi (ByteArray.extract r1 (0:Nat) (Int.toNat (if 3 < r24 then 3 else r24))) (fun r25 r26 =>
 (if decide (r25 > 167) then
 (if 0≤(↑(ByteArray.size r1):Int)∧(↑(ByteArray.size r1):Int)≤(↑(ByteArray.size r1):Int) then
 (if 0≤w64 ((if 3 < r24 then 3 else r24) - 1)∧w64 ((if 3 < r24 then 3 else r24) - 1)≤(↑(ByteArray.size r1):Int) then
 (lt (ByteArray.extract r1 (Int.toNat (w64 ((if 3 < r24 then 3 else r24) - 1))) (Int.toNat (↑(ByteArray.size r1):Int))) fun v27 =>
 xq39 v27 (fun r28 r29 r30 =>
 xq3h r29 r30 (fun r31 r32 r33 =>
 (lt (w64 (w64 (Int.tdiv r25 10) * 3600)) fun v34 =>
 (lt (w64 (v34+w64 (r28 * 60))) fun v35 =>
 (lt (w64 ((-1) * w64 (v35+r31))) fun v36 =>
 K v36 r32 true))))))
 else
 False)
 else
 False)
 else
 (if 0≤(↑(ByteArray.size r1):Int)∧(↑(ByteArray.size r1):Int)≤(↑(ByteArray.size r1):Int) then
 (if (0≤if 3 < r24 then 3 else r24)∧(if 3 < r24 then 3 else r24)≤(↑(ByteArray.size r1):Int) then
 xq39 (ByteArray.extract r1 (Int.toNat (if 3 < r24 then 3 else r24)) (Int.toNat (↑(ByteArray.size r1):Int))) (fun r37 r38 r39 =>
 xq3h r38 r39 (fun r40 r41 r42 =>
 (lt (w64 (w64 (r25 * 3600)+w64 (r37 * 60))) fun v43 =>
 (lt (w64 ((-1) * w64 (v43+r40))) fun v44 =>
 K v44 r41 true))))
 else
 False)
 else
 False)))
 else
 False)
 else
 False)))))
def Xq3t:Tq3t:=Yq3t Xq0s Xq2w Xatoi Xq39 Xq3h
def Jq3t (X:Tq3t):Inst:=mkI 210 pL8 .nil pL60 .nil X
def Iq3t:Inst:=Jq3t Xq3t
theorem Eq3t (xq0s:Tq0s) (xq2w:Tq2w) (xatoi:Tatoi) (xq39:Tq39) (xq3h:Tq3h):EqF Tryz.prog 68 gives Tryz.f210 [Jq0s xq0s,Jq2w xq2w,Jatoi xatoi,Jq39 xq39,Jq3h xq3h] [] (Jq3t (Yq3t xq0s xq2w xatoi xq39 xq3h)):=fun x y K=>by kernel_rfl
theorem Iq3t_ok:InstOk Tryz.prog G.1 Iq3t:=iok (gives:=gives) [] (okCons Iq0s_ok (okCons Iq2w_ok (okCons Iatoi_ok (okCons Iq39_ok (okCons Iq3h_ok okNil))))) 68 follows Tryz.func210 (by kernel_rfl) (fun x=>by kernel_rfl) (Eq3t Xq0s Xq2w Xatoi Xq39 Xq3h)
abbrev Tq17:Type:=ByteArray→Int→Bool→ByteArray→Int→Bool→ByteArray→Bool→Int→Int→Int→Int→Int→Int→Int→Int→Int→Int→(Bool→ByteArray→Int→Bool→ByteArray→Int→Bool→ByteArray→Bool→Int→Int→Int→Int→Int→Int→Int→Int→Int→Int→Prop)→Prop
def Yq17 (xq1d:Tq1d) (xq3t:Tq3t) (a0:ByteArray) (a1:Int) (a2:Bool) (a3:ByteArray) (a4:Int) (a5:Bool) (a6:ByteArray) (a7:Bool) (a8:Int) (a9:Int) (a10:Int) (a11:Int) (a12:Int) (a13:Int) (a14:Int) (a15:Int) (a16:Int) (a17:Int) (K:Bool→ByteArray→Int→Bool→ByteArray→Int→Bool→ByteArray→Bool→Int→Int→Int→Int→Int→Int→Int→Int→Int→Int→Prop):Prop :=
 xq1d a0 a1 a2 a3 a4 a5 a6 a7 a8 a9 a10 a11 a12 a13 a14 a15 a16 a17 (fun r18 r19 r20 r21 r22 r23 r24 r25 r26 r27 r28 r29 r30 r31 r32 r33 r34 r35 r36 r37 =>
 xq3t r20 (fun r38 r39 r40 =>
 (if r19 then
 K r40 r39 (w64 (0 - r38)) false r18 r24 r25 r26 r27 r28 r29 r30 r31 r32 r33 r34 r35 r36 r37
 else
 K false r39 (w64 (0 - r38)) false r18 r24 r25 r26 r27 r28 r29 r30 r31 r32 r33 r34 r35 r36 r37)))
def Xq17:Tq17:=Yq17 Xq1d Xq3t
def Jq17 (X:Tq17):Inst:=mkI 173 pL55 pH56 pL1 pH56 X
def Iq17:Inst:=Jq17 Xq17
theorem Eq17 (xq1d:Tq1d) (xq3t:Tq3t):EqF Tryz.prog 38 gives Tryz.f173 [Jq1d xq1d,Jq3t xq3t] [] (Jq17 (Yq17 xq1d xq3t)):=fun x y K=>by kernel_rfl
theorem Iq17_ok:InstOk Tryz.prog G.1 Iq17:=iok (gives:=gives) [] (okCons Iq1d_ok (okCons Iq3t_ok okNil)) 38 follows Tryz.func173 (by kernel_rfl) (fun x=>by kernel_rfl) (Eq17 Xq1d Xq3t)
abbrev Tq0p:Type:=ByteArray→Int→Bool→ByteArray→Int→Bool→ByteArray→Bool→Int→Int→Int→Int→Int→Int→Int→Int→Int→Int→(Bool→ByteArray→Int→Bool→ByteArray→Int→Bool→ByteArray→Bool→Int→Int→Int→Int→Int→Int→Int→Int→Int→Int→Prop)→Prop
def Yq0p (xq1d:Tq1d) (xq3t:Tq3t) (a0:ByteArray) (a1:Int) (a2:Bool) (a3:ByteArray) (a4:Int) (a5:Bool) (a6:ByteArray) (a7:Bool) (a8:Int) (a9:Int) (a10:Int) (a11:Int) (a12:Int) (a13:Int) (a14:Int) (a15:Int) (a16:Int) (a17:Int) (K:Bool→ByteArray→Int→Bool→ByteArray→Int→Bool→ByteArray→Bool→Int→Int→Int→Int→Int→Int→Int→Int→Int→Int→Prop):Prop :=
 xq1d a0 a1 a2 a3 a4 a5 a6 a7 a8 a9 a10 a11 a12 a13 a14 a15 a16 a17 (fun r18 r19 r20 r21 r22 r23 r24 r25 r26 r27 r28 r29 r30 r31 r32 r33 r34 r35 r36 r37 =>
 xq3t r20 (fun r38 r39 r40 =>
 (if r40 then
 K r19 r39 r21 r22 r23 (w64 (0 - r38)) true r18 true r28 r29 r30 r31 r32 r33 r34 r35 r36 r37
 else
 K r19 r20 r21 r22 r23 (w64 (r21+3600)) true r18 true r28 r29 r30 r31 r32 r33 r34 r35 r36 r37)))
def Xq0p:Tq0p:=Yq0p Xq1d Xq3t
def Jq0p (X:Tq0p):Inst:=mkI 174 pL55 pH56 pL1 pH56 X
def Iq0p:Inst:=Jq0p Xq0p
theorem Eq0p (xq1d:Tq1d) (xq3t:Tq3t):EqF Tryz.prog 50 gives Tryz.f174 [Jq1d xq1d,Jq3t xq3t] [] (Jq0p (Yq0p xq1d xq3t)):=fun x y K=>by kernel_rfl
theorem Iq0p_ok:InstOk Tryz.prog G.1 Iq0p:=iok (gives:=gives) [] (okCons Iq1d_ok (okCons Iq3t_ok okNil)) 50 follows Tryz.func174 (by kernel_rfl) (fun x=>by kernel_rfl) (Eq0p Xq1d Xq3t)
abbrev Tq30:Type:=ByteArray→Int→(Int→ByteArray→Bool→Prop)→Prop
def Yq30 (xq2w:Tq2w) (xatoi:Tatoi) (a0:ByteArray) (a1:Int) (K:Int→ByteArray→Bool→Prop):Prop :=
 xq2w a0 (fun r2 =>
 (if (r2 == 0) then
 K 0 a0 false
 else
 (if decide (r2 > a1) then
 K 0 a0 false
 else
 (if 0≤r2∧r2≤(↑(ByteArray.size a0):Int) then
 (if (0 :Int)≤0∧0≤r2 then
 xatoi (ByteArray.extract a0 (0:Nat) (Int.toNat r2)) (fun r3 r4 =>
 (if 0≤(↑(ByteArray.size a0):Int)∧(↑(ByteArray.size a0):Int)≤(↑(ByteArray.size a0):Int) then
 (if 0≤r2∧r2≤(↑(ByteArray.size a0):Int) then
 K r3 (ByteArray.extract a0 (Int.toNat r2) (Int.toNat (↑(ByteArray.size a0):Int))) true
 else
 False)
 else
 False))
 else
 False)
 else
 False))))
def Xq30:Tq30:=Yq30 Xq2w Xatoi
def Jq30 (X:Tq30):Inst:=mkI 270 pL61 .nil pL60 .nil X
def Iq30:Inst:=Jq30 Xq30
theorem Eq30 (xq2w:Tq2w) (xatoi:Tatoi):EqF Tryz.prog 29 gives Tryz.f270 [Jq2w xq2w,Jatoi xatoi] [] (Jq30 (Yq30 xq2w xatoi)):=fun x y K=>by kernel_rfl
theorem Iq30_ok:InstOk Tryz.prog G.1 Iq30:=iok (gives:=gives) [] (okCons Iq2w_ok (okCons Iatoi_ok okNil)) 29 follows Tryz.func270 (by kernel_rfl) (fun x=>by kernel_rfl) (Eq30 Xq2w Xatoi)
abbrev Tq3q:Type:=ByteArray→(Q45→ByteArray→Bool→Prop)→Prop
def Yq3q (xq30:Tq30) (xq0u:Tq0u) (a0:ByteArray) (K:Q45→ByteArray→Bool→Prop):Prop :=
 xq30 a0 2 (fun r1 r2 r3 =>
 xq0u r2 (ByteArray.mk #[(46:UInt8)]) (fun r4 r5 =>
 xq30 r4 1 (fun r6 r7 r8 =>
 xq0u r7 (ByteArray.mk #[(46:UInt8)]) (fun r9 r10 =>
 xq30 r9 1 (fun r11 r12 r13 =>
 (if r3 then
 (if r8 then
 (if r13 then
 (if r5 then
 K (0,r1,r6,r11,0,()) r12 r10
 else
 K (0,r1,r6,r11,0,()) r12 false)
 else
 K (0,r1,r6,r11,0,()) r12 false)
 else
 K (0,r1,r6,r11,0,()) r12 false)
 else
 K (0,r1,r6,r11,0,()) r12 false))))))
def Xq3q:Tq3q:=Yq3q Xq30 Xq0u
def Jq3q (X:Tq3q):Inst:=mkI 269 pL8 .nil pL62 .nil X
def Iq3q:Inst:=Jq3q Xq3q
theorem Eq3q (xq30:Tq30) (xq0u:Tq0u):EqF Tryz.prog 63 gives Tryz.f269 [Jq30 xq30,Jq0u xq0u] [] (Jq3q (Yq3q xq30 xq0u)):=fun x y K=>by kernel_rfl
theorem Iq3q_ok:InstOk Tryz.prog G.1 Iq3q:=iok (gives:=gives) [] (okCons Iq30_ok (okCons Iq0u_ok okNil)) 63 follows Tryz.func269 (by kernel_rfl) (fun x=>by kernel_rfl) (Eq3q Xq30 Xq0u)
abbrev Tq3u:Type:=ByteArray→(Q45→ByteArray→Bool→Prop)→Prop
def Yq3u (xq0u:Tq0u) (xq3q:Tq3q) (xq30:Tq30) (a0:ByteArray) (K:Q45→ByteArray→Bool→Prop):Prop :=
 xq0u a0 (ByteArray.mk #[(77:UInt8)]) (fun r1 r2 =>
 (if r2 then
 xq3q r1 (fun r3 r4 r5 =>
 K r3 r4 r5)
 else
 xq0u a0 (ByteArray.mk #[(74:UInt8)]) (fun r6 r7 =>
 (if r7 then
 xq30 r6 3 (fun r8 r9 r10 =>
 K (1,r8,0,0,0,()) r9 r10)
 else
 xq30 r6 3 (fun r11 r12 r13 =>
 K (2,r11,0,0,0,()) r12 r13)))))
def Xq3u:Tq3u:=Yq3u Xq0u Xq3q Xq30
def Jq3u (X:Tq3u):Inst:=mkI 254 pL8 .nil pL62 .nil X
def Iq3u:Inst:=Jq3u Xq3u
theorem Eq3u (xq0u:Tq0u) (xq3q:Tq3q) (xq30:Tq30):EqF Tryz.prog 38 gives Tryz.f254 [Jq0u xq0u,Jq3q xq3q,Jq30 xq30] [] (Jq3u (Yq3u xq0u xq3q xq30)):=fun x y K=>by kernel_rfl
theorem Iq3u_ok:InstOk Tryz.prog G.1 Iq3u:=iok (gives:=gives) [] (okCons Iq0u_ok (okCons Iq3q_ok (okCons Iq30_ok okNil))) 38 follows Tryz.func254 (by kernel_rfl) (fun x=>by kernel_rfl) (Eq3u Xq0u Xq3q Xq30)
abbrev Tq3g:Type:=ByteArray→(Q45→ByteArray→Bool→Prop)→Prop
def Yq3g (xq3u:Tq3u) (xq0u:Tq0u) (xq3t:Tq3t) (xq3e:Tq3e) (a0:ByteArray) (K:Q45→ByteArray→Bool→Prop):Prop :=
 xq3u a0 (fun r1 r2 r3 =>
 xq0u r2 (ByteArray.mk #[(47:UInt8)]) (fun r4 r5 =>
 (if r3 then
 (if r5 then
 xq3t r4 (fun r6 r7 r8 =>
 (if (!r8) then
 K (0,0,0,0,0,()) a0 false
 else
 xq3e (r1.1,r1.2.1,r1.2.2.1,r1.2.2.2.1,r6,()) (fun r9 =>
 (if (!r9) then
 K (0,0,0,0,0,()) a0 false
 else
 K (r1.1,r1.2.1,r1.2.2.1,r1.2.2.2.1,r6,()) r7 true))))
 else
 (if (!r3) then
 K (0,0,0,0,0,()) a0 false
 else
 xq3e (r1.1,r1.2.1,r1.2.2.1,r1.2.2.2.1,7200,()) (fun r10 =>
 (if (!r10) then
 K (0,0,0,0,0,()) a0 false
 else
 K (r1.1,r1.2.1,r1.2.2.1,r1.2.2.2.1,7200,()) r2 true))))
 else
 (if (!r3) then
 K (0,0,0,0,0,()) a0 false
 else
 xq3e (r1.1,r1.2.1,r1.2.2.1,r1.2.2.2.1,7200,()) (fun r11 =>
 (if (!r11) then
 K (0,0,0,0,0,()) a0 false
 else
 K (r1.1,r1.2.1,r1.2.2.1,r1.2.2.2.1,7200,()) r2 true))))))
def Xq3g:Tq3g:=Yq3g Xq3u Xq0u Xq3t Xq3e
def Jq3g (X:Tq3g):Inst:=mkI 237 pL8 .nil pL62 .nil X
def Iq3g:Inst:=Jq3g Xq3g
theorem Eq3g (xq3u:Tq3u) (xq0u:Tq0u) (xq3t:Tq3t) (xq3e:Tq3e):EqF Tryz.prog 44 gives Tryz.f237 [Jq3u xq3u,Jq0u xq0u,Jq3t xq3t,Jq3e xq3e] [] (Jq3g (Yq3g xq3u xq0u xq3t xq3e)):=fun x y K=>by kernel_rfl
theorem Iq3g_ok:InstOk Tryz.prog G.1 Iq3g:=iok (gives:=gives) [] (okCons Iq3u_ok (okCons Iq0u_ok (okCons Iq3t_ok (okCons Iq3e_ok okNil)))) 44 follows Tryz.func237 (by kernel_rfl) (fun x=>by kernel_rfl) (Eq3g Xq3u Xq0u Xq3t Xq3e)
abbrev Tq1i:Type:=ByteArray→Int→Bool→ByteArray→Int→Bool→ByteArray→Bool→Int→Int→Int→Int→Int→Int→Int→Int→Int→Int→(Bool→ByteArray→Int→Bool→ByteArray→Int→Bool→ByteArray→Bool→Int→Int→Int→Int→Int→Int→Int→Int→Int→Int→Prop)→Prop
def Yq1i (xq0u:Tq0u) (xq3g:Tq3g) (a0:ByteArray) (a1:Int) (a2:Bool) (a3:ByteArray) (a4:Int) (a5:Bool) (a6:ByteArray) (a7:Bool) (a8:Int) (a9:Int) (a10:Int) (a11:Int) (a12:Int) (a13:Int) (a14:Int) (a15:Int) (a16:Int) (a17:Int) (K:Bool→ByteArray→Int→Bool→ByteArray→Int→Bool→ByteArray→Bool→Int→Int→Int→Int→Int→Int→Int→Int→Int→Int→Prop):Prop :=
 xq0u a0 (ByteArray.mk #[(44:UInt8)]) (fun r18 r19 =>
 xq3g r18 (fun r20 r21 r22 =>
 (if r22 then
 K r19 r21 a1 a2 a3 a4 a5 a6 a7 r20.1 r20.2.1 r20.2.2.1 r20.2.2.2.1 r20.2.2.2.2.1 a13 a14 a15 a16 a17
 else
 K false r21 a1 a2 a3 a4 a5 a6 a7 r20.1 r20.2.1 r20.2.2.1 r20.2.2.2.1 r20.2.2.2.2.1 a13 a14 a15 a16 a17)))
def Xq1i:Tq1i:=Yq1i Xq0u Xq3g
def Jq1i (X:Tq1i):Inst:=mkI 211 pL63 pH56 pL1 pH56 X
def Iq1i:Inst:=Jq1i Xq1i
theorem Eq1i (xq0u:Tq0u) (xq3g:Tq3g):EqF Tryz.prog 30 gives Tryz.f211 [Jq0u xq0u,Jq3g xq3g] [] (Jq1i (Yq1i xq0u xq3g)):=fun x y K=>by kernel_rfl
theorem Iq1i_ok:InstOk Tryz.prog G.1 Iq1i:=iok (gives:=gives) [] (okCons Iq0u_ok (okCons Iq3g_ok okNil)) 30 follows Tryz.func211 (by kernel_rfl) (fun x=>by kernel_rfl) (Eq1i Xq0u Xq3g)
abbrev Tq1b:Type:=ByteArray→Int→Bool→ByteArray→Int→Bool→ByteArray→Bool→Int→Int→Int→Int→Int→Int→Int→Int→Int→Int→(Bool→ByteArray→Int→Bool→ByteArray→Int→Bool→ByteArray→Bool→Int→Int→Int→Int→Int→Int→Int→Int→Int→Int→Prop)→Prop
def Yq1b (xq1i:Tq1i) (a0:ByteArray) (a1:Int) (a2:Bool) (a3:ByteArray) (a4:Int) (a5:Bool) (a6:ByteArray) (a7:Bool) (a8:Int) (a9:Int) (a10:Int) (a11:Int) (a12:Int) (a13:Int) (a14:Int) (a15:Int) (a16:Int) (a17:Int) (K:Bool→ByteArray→Int→Bool→ByteArray→Int→Bool→ByteArray→Bool→Int→Int→Int→Int→Int→Int→Int→Int→Int→Int→Prop):Prop :=
 xq1i a0 a1 a2 a3 a4 a5 a6 a7 a8 a9 a10 a11 a12 a13 a14 a15 a16 a17 (fun r18 r19 r20 r21 r22 r23 r24 r25 r26 r27 r28 r29 r30 r31 r32 r33 r34 r35 r36 =>
 K r18 r19 r20 r21 r22 r23 r24 r25 r26 r27 r28 r29 r30 r31 r32 r33 r34 r35 r36)
def Xq1b:Tq1b:=Yq1b Xq1i
def Jq1b (X:Tq1b):Inst:=mkI 175 pL55 pH56 pL1 pH56 X
def Iq1b:Inst:=Jq1b Xq1b
theorem Eq1b (xq1i:Tq1i):EqF Tryz.prog 9 gives Tryz.f175 [Jq1i xq1i] [] (Jq1b (Yq1b xq1i)):=fun x y K=>by kernel_rfl
theorem Iq1b_ok:InstOk Tryz.prog G.1 Iq1b:=iok (gives:=gives) [] (okCons Iq1i_ok okNil) 9 follows Tryz.func175 (by kernel_rfl) (fun x=>by kernel_rfl) (Eq1b Xq1i)
abbrev Tq0m:Type:=ByteArray→Int→Bool→ByteArray→Int→Bool→ByteArray→Bool→Int→Int→Int→Int→Int→Int→Int→Int→Int→Int→(Bool→ByteArray→Int→Bool→ByteArray→Int→Bool→ByteArray→Bool→Int→Int→Int→Int→Int→Int→Int→Int→Int→Int→Prop)→Prop
def Yq0m (xq0u:Tq0u) (xq3g:Tq3g) (a0:ByteArray) (a1:Int) (a2:Bool) (a3:ByteArray) (a4:Int) (a5:Bool) (a6:ByteArray) (a7:Bool) (a8:Int) (a9:Int) (a10:Int) (a11:Int) (a12:Int) (a13:Int) (a14:Int) (a15:Int) (a16:Int) (a17:Int) (K:Bool→ByteArray→Int→Bool→ByteArray→Int→Bool→ByteArray→Bool→Int→Int→Int→Int→Int→Int→Int→Int→Int→Int→Prop):Prop :=
 xq0u a0 (ByteArray.mk #[(44:UInt8)]) (fun r18 r19 =>
 xq3g r18 (fun r20 r21 r22 =>
 (if r22 then
 K r19 r21 a1 a2 a3 a4 a5 a6 a7 a8 a9 a10 a11 a12 r20.1 r20.2.1 r20.2.2.1 r20.2.2.2.1 r20.2.2.2.2.1
 else
 K false r21 a1 a2 a3 a4 a5 a6 a7 a8 a9 a10 a11 a12 r20.1 r20.2.1 r20.2.2.1 r20.2.2.2.1 r20.2.2.2.2.1)))
def Xq0m:Tq0m:=Yq0m Xq0u Xq3g
def Jq0m (X:Tq0m):Inst:=mkI 211 pL64 pH56 pL1 pH56 X
def Iq0m:Inst:=Jq0m Xq0m
theorem Eq0m (xq0u:Tq0u) (xq3g:Tq3g):EqF Tryz.prog 30 gives Tryz.f211 [Jq0u xq0u,Jq3g xq3g] [] (Jq0m (Yq0m xq0u xq3g)):=fun x y K=>by kernel_rfl
theorem Iq0m_ok:InstOk Tryz.prog G.1 Iq0m:=iok (gives:=gives) [] (okCons Iq0u_ok (okCons Iq3g_ok okNil)) 30 follows Tryz.func211 (by kernel_rfl) (fun x=>by kernel_rfl) (Eq0m Xq0u Xq3g)
abbrev Tq28:Type:=ByteArray→Int→Bool→ByteArray→Int→Bool→ByteArray→Bool→Int→Int→Int→Int→Int→Int→Int→Int→Int→Int→(Bool→ByteArray→Int→Bool→ByteArray→Int→Bool→ByteArray→Bool→Int→Int→Int→Int→Int→Int→Int→Int→Int→Int→Prop)→Prop
def Yq28 (xq0m:Tq0m) (a0:ByteArray) (a1:Int) (a2:Bool) (a3:ByteArray) (a4:Int) (a5:Bool) (a6:ByteArray) (a7:Bool) (a8:Int) (a9:Int) (a10:Int) (a11:Int) (a12:Int) (a13:Int) (a14:Int) (a15:Int) (a16:Int) (a17:Int) (K:Bool→ByteArray→Int→Bool→ByteArray→Int→Bool→ByteArray→Bool→Int→Int→Int→Int→Int→Int→Int→Int→Int→Int→Prop):Prop :=
 xq0m a0 a1 a2 a3 a4 a5 a6 a7 a8 a9 a10 a11 a12 a13 a14 a15 a16 a17 (fun r18 r19 r20 r21 r22 r23 r24 r25 r26 r27 r28 r29 r30 r31 r32 r33 r34 r35 r36 =>
 K r18 r19 r20 r21 r22 r23 r24 r25 r26 r27 r28 r29 r30 r31 r32 r33 r34 r35 r36)
def Xq28:Tq28:=Yq28 Xq0m
def Jq28 (X:Tq28):Inst:=mkI 176 pL55 pH56 pL1 pH56 X
def Iq28:Inst:=Jq28 Xq28
theorem Eq28 (xq0m:Tq0m):EqF Tryz.prog 9 gives Tryz.f176 [Jq0m xq0m] [] (Jq28 (Yq28 xq0m)):=fun x y K=>by kernel_rfl
theorem Iq28_ok:InstOk Tryz.prog G.1 Iq28:=iok (gives:=gives) [] (okCons Iq0m_ok okNil) 9 follows Tryz.func176 (by kernel_rfl) (fun x=>by kernel_rfl) (Eq28 Xq0m)
abbrev Tq3c:Type:=ByteArray→(Q47→Bool→Prop)→Prop
def Lq3c_0p:Lp:=⟨1835036,[],.nil,.nil,12⟩
def Yq3c (xq17:Tq17) (xq3b:Tq3b) (xq0p:Tq0p) (xq1b:Tq1b) (xq28:Tq28) (a0:ByteArray) (K:Q47→Bool→Prop):Prop :=
 xq17 a0 0 false (ByteArray.mk #[]) 0 false (ByteArray.mk #[]) false 0 0 0 0 0 0 0 0 0 0 (fun r1 r2 r3 r4 r5 r6 r7 r8 r9 r10 r11 r12 r13 r14 r15 r16 r17 r18 r19 =>
 (if (!r1) then
 K (0,false,ByteArray.mk #[],0,false,ByteArray.mk #[],false,0,0,0,0,0,0,0,0,0,0,()) false
 else
 (if (ByteArray.toList r2 == ByteArray.toList (ByteArray.mk #[])) then
 (if (!ByteArray.toList r2 == ByteArray.toList (ByteArray.mk #[])) then
 K (0,false,ByteArray.mk #[],0,false,ByteArray.mk #[],false,0,0,0,0,0,0,0,0,0,0,()) false
 else
 xq3b (r3,r4,r5,r6,r7,r8,r9,r10,r11,r12,r13,r14,r15,r16,r17,r18,r19,()) (fun r20 =>
 (if (!r20) then
 K (0,false,ByteArray.mk #[],0,false,ByteArray.mk #[],false,0,0,0,0,0,0,0,0,0,0,()) false
 else
 K (r3,r4,r5,r6,r7,r8,r9,r10,r11,r12,r13,r14,r15,r16,r17,r18,r19,()) true)))
 else
 xq0p r2 r3 r4 r5 r6 r7 r8 r9 r10 r11 r12 r13 r14 r15 r16 r17 r18 r19 (fun r21 r22 r23 r24 r25 r26 r27 r28 r29 r30 r31 r32 r33 r34 r35 r36 r37 r38 r39 =>
 (if (!r21) then
 K (0,false,ByteArray.mk #[],0,false,ByteArray.mk #[],false,0,0,0,0,0,0,0,0,0,0,()) false
 else
 xq1b r22 r23 r24 r25 r26 r27 r28 r29 r30 r31 r32 r33 r34 r35 r36 r37 r38 r39 (fun r40 r41 r42 r43 r44 r45 r46 r47 r48 r49 r50 r51 r52 r53 r54 r55 r56 r57 r58 =>
 (if (!r40) then
 K (0,false,ByteArray.mk #[],0,false,ByteArray.mk #[],false,0,0,0,0,0,0,0,0,0,0,()) false
 else
 xq28 r41 r42 r43 r44 r45 r46 r47 r48 r49 r50 r51 r52 r53 r54 r55 r56 r57 r58 (fun r59 r60 r61 r62 r63 r64 r65 r66 r67 r68 r69 r70 r71 r72 r73 r74 r75 r76 r77 =>
 (if (!r59) then
 K (0,false,ByteArray.mk #[],0,false,ByteArray.mk #[],false,0,0,0,0,0,0,0,0,0,0,()) false
 else
 (if (!ByteArray.toList r60 == ByteArray.toList (ByteArray.mk #[])) then
 K (0,false,ByteArray.mk #[],0,false,ByteArray.mk #[],false,0,0,0,0,0,0,0,0,0,0,()) false
 else
 xq3b (r61,r62,r63,r64,r65,r66,r67,r68,r69,r70,r71,r72,r73,r74,r75,r76,r77,()) (fun r78 =>
 (if (!r78) then
 K (0,false,ByteArray.mk #[],0,false,ByteArray.mk #[],false,0,0,0,0,0,0,0,0,0,0,()) false
 else
 K (r61,r62,r63,r64,r65,r66,r67,r68,r69,r70,r71,r72,r73,r74,r75,r76,r77,()) true))))))))))))
def Xq3c:Tq3c:=Yq3c Xq17 Xq3b Xq0p Xq1b Xq28
def Jq3c (X:Tq3c):Inst:=mkI 118 pL8 .nil pL65 .nil X
def Iq3c:Inst:=Jq3c Xq3c
theorem Eq3c (xq17:Tq17) (xq3b:Tq3b) (xq0p:Tq0p) (xq1b:Tq1b) (xq28:Tq28):EqF Tryz.prog 57 gives Tryz.f118 [Jq17 xq17,Jq3b xq3b,Jq0p xq0p,Jq1b xq1b,Jq28 xq28] [Lq3c_0p] (Jq3c (Yq3c xq17 xq3b xq0p xq1b xq28)):=fun x y K=>by kernel_rfl
theorem Iq3c_ok:InstOk Tryz.prog G.1 Iq3c:=iok (gives:=gives) [Lq3c_0p] (okCons Iq17_ok (okCons Iq3b_ok (okCons Iq0p_ok (okCons Iq1b_ok (okCons Iq28_ok okNil))))) 57 follows Tryz.func118 (by kernel_rfl) (fun x=>by kernel_rfl) (Eq3c Xq17 Xq3b Xq0p Xq1b Xq28)
abbrev Tq3w:Type:=Q45→(Bool→Prop)→Prop
def Yq3w (a0:Q45) (K:Bool→Prop):Prop :=
 (if decide (a0.2.2.2.2.1 < 0) then
 K true
 else
 K (decide (a0.2.2.2.2.1 > 86400)))
def Xq3w:Tq3w:=Yq3w
def Jq3w (X:Tq3w):Inst:=mkI 123 pL46 .nil pL1 .nil X
def Iq3w:Inst:=Jq3w Xq3w
theorem Eq3w:EqF Tryz.prog 11 gives Tryz.f123 [] [] (Jq3w (Yq3w)):=fun x y K=>by kernel_rfl
theorem Iq3w_ok:InstOk Tryz.prog G.1 Iq3w:=iok (gives:=gives) [] okNil 11 follows Tryz.func123 (by kernel_rfl) (fun x=>by kernel_rfl) (Eq3w)
abbrev Tq3r:Type:=Q15→(Bool→Prop)→Prop
def Yq3r (xq3c:Tq3c) (xq3w:Tq3w) (a0:Q15) (K:Bool→Prop):Prop :=
 (if (ByteArray.toList a0.2.2.2.1 == ByteArray.toList (ByteArray.mk #[])) then
 K true
 else
 xq3c a0.2.2.2.1 (fun r1 r2 =>
 xq3w (r1.2.2.2.2.2.2.2.1,r1.2.2.2.2.2.2.2.2.1,r1.2.2.2.2.2.2.2.2.2.1,r1.2.2.2.2.2.2.2.2.2.2.1,r1.2.2.2.2.2.2.2.2.2.2.2.1,()) (fun r3 =>
 (if r3 then
 (if r2 then
 K (decide (a0.2.2.2.2.1≥3))
 else
 K false)
 else
 xq3w r1.2.2.2.2.2.2.2.2.2.2.2.2 (fun r4 =>
 (if r4 then
 (if r2 then
 K (decide (a0.2.2.2.2.1≥3))
 else
 K false)
 else
 (if r2 then
 K (decide (a0.2.2.2.2.1≥2))
 else
 K false)))))))
def Xq3r:Tq3r:=Yq3r Xq3c Xq3w
def Jq3r (X:Tq3r):Inst:=mkI 58 pL19 .nil pL1 .nil X
def Iq3r:Inst:=Jq3r Xq3r
theorem Eq3r (xq3c:Tq3c) (xq3w:Tq3w):EqF Tryz.prog 32 gives Tryz.f58 [Jq3c xq3c,Jq3w xq3w] [] (Jq3r (Yq3r xq3c xq3w)):=fun x y K=>by kernel_rfl
theorem Iq3r_ok:InstOk Tryz.prog G.1 Iq3r:=iok (gives:=gives) [] (okCons Iq3c_ok (okCons Iq3w_ok okNil)) 32 follows Tryz.func58 (by kernel_rfl) (fun x=>by kernel_rfl) (Eq3r Xq3c Xq3w)
abbrev Tq34:Type:=Q15→(Bool→Prop)→Prop
def Yq34 (xq2x:Tq2x) (xq2s:Tq2s) (xq2f:Tq2f) (xq0t:Tq0t) (xq0i:Tq0i) (xq3r:Tq3r) (a0:Q15) (K:Bool→Prop):Prop :=
 xq2x a0 (fun r1 r2 =>
 (if (!r2) then
 K false
 else
 xq2s a0.2.2.1 (fun r3 =>
 (if (!r3) then
 K false
 else
 xq2f a0.2.2.1 (fun r4 r5 =>
 (if r5 then
 (if decide (a0.2.2.2.2.1 < 4) then
 K false
 else
 xq0t a0.1 (fun r6 =>
 xq0i a0.2.1 a0.1 a0.2.1 a0.2.2.1 a0.2.2.2.1 a0.2.2.2.2.1 (fun r7 r8 r9 r10 r11 r12 r13 r14 r15 r16 r17 r18 =>
 (if r6 then
 (if r7 then
 xq3r (r10,r13,r16,r8,r9,()) (fun r19 =>
 K r19)
 else
 K false)
 else
 K false))))
 else
 xq0t a0.1 (fun r20 =>
 xq0i a0.2.1 a0.1 a0.2.1 a0.2.2.1 a0.2.2.2.1 a0.2.2.2.2.1 (fun r21 r22 r23 r24 r25 r26 r27 r28 r29 r30 r31 r32 =>
 (if r20 then
 (if r21 then
 xq3r (r24,r27,r30,r22,r23,()) (fun r33 =>
 K r33)
 else
 K false)
 else
 K false)))))))))
def Xq34:Tq34:=Yq34 Xq2x Xq2s Xq2f Xq0t Xq0i Xq3r
def Jq34 (X:Tq34):Inst:=mkI 19 pL19 .nil pL1 .nil X
def Iq34:Inst:=Jq34 Xq34
theorem Eq34 (xq2x:Tq2x) (xq2s:Tq2s) (xq2f:Tq2f) (xq0t:Tq0t) (xq0i:Tq0i) (xq3r:Tq3r):EqF Tryz.prog 49 gives Tryz.f19 [Jq2x xq2x,Jq2s xq2s,Jq2f xq2f,Jq0t xq0t,Jq0i xq0i,Jq3r xq3r] [] (Jq34 (Yq34 xq2x xq2s xq2f xq0t xq0i xq3r)):=fun x y K=>by kernel_rfl
theorem Iq34_ok:InstOk Tryz.prog G.1 Iq34:=iok (gives:=gives) [] (okCons Iq2x_ok (okCons Iq2s_ok (okCons Iq2f_ok (okCons Iq0t_ok (okCons Iq0i_ok (okCons Iq3r_ok okNil)))))) 49 follows Tryz.func19 (by kernel_rfl) (fun x=>by kernel_rfl) (Eq34 Xq2x Xq2s Xq2f Xq0t Xq0i Xq3r)
end Go.Proofs.YtbnpclndiichcaaGreatDoor
end
section
set_option linter.unusedVariables false
set_option linter.unusedSimpArgs false
namespace Go.Proofs.YtbnpclndiichcaaGreatDoor
open Go Go.Proofs.YtbnpclndiichcaaGreatDoor.Eng
set_option maxRecDepth 100000
set_option maxHeartbeats 4000000
variable {G:Gs}
abbrev Tq2c:Type:=Q15→(Bool→Prop)→Prop
def Lq2c_0 (K:Bool→Prop):(Q127→Prop)→Q127→Prop:=fun k1 x2 =>
 (if decide (x2.1.2.2.1 < (↑(List.length x2.2.1.1):Int)) then
 (if decide (x2.1.2.2.1 < 100) then
 (if 0≤x2.1.2.2.1∧x2.1.2.2.1 < (↑(List.length x2.2.1.1):Int) then
 (Eng.asStr (Eng.getC x2.2.1.1 (Int.toNat x2.1.2.2.1) (2:Nat)) False fun t3 =>
 (if decide ((↑(ByteArray.size t3):Int) > 100) then
 K false
 else
 k1 (((),x2.1.2.1,w64 (x2.1.2.2.1+1),()),x2.2)))
 else
 False)
 else
 (if decide ((↑(List.length x2.2.1.1):Int)≤100) then
 (if decide ((↑(List.length x2.2.1.2.1):Int)≤300) then
 (if decide ((↑(List.length x2.2.1.2.2.1):Int)≤300) then
 K (decide ((↑(ByteArray.size x2.2.1.2.2.2.1):Int)≤200))
 else
 K false)
 else
 K false)
 else
 K false))
 else
 (if decide ((↑(List.length x2.2.1.1):Int)≤100) then
 (if decide ((↑(List.length x2.2.1.2.1):Int)≤300) then
 (if decide ((↑(List.length x2.2.1.2.2.1):Int)≤300) then
 K (decide ((↑(ByteArray.size x2.2.1.2.2.2.1):Int)≤200))
 else
 K false)
 else
 K false)
 else
 K false))
def Lq2c_0p:Lp:=⟨14,[.trim 14],pT128,pH129,0⟩
def Yq2c (a0:Q15) (K:Bool→Prop):Prop :=
 lp (Lq2c_0 K) (((),false,0,()),a0,())
def Xq2c:Tq2c:=Yq2c
def Jq2c (X:Tq2c):Inst:=mkI 10 pL19 .nil pL1 .nil X
def Iq2c:Inst:=Jq2c Xq2c
theorem Eq2c:EqF Tryz.prog 45 gives Tryz.f10 [] [Lq2c_0p] (Jq2c (Yq2c)):=fun x y K=>by kernel_rfl
theorem Iq2c_ok:InstOk Tryz.prog G.1 Iq2c:=iok (gives:=gives) [Lq2c_0p] okNil 45 follows Tryz.func10 (by kernel_rfl) (fun x=>by kernel_rfl) (Eq2c)
end Go.Proofs.YtbnpclndiichcaaGreatDoor
end
section
set_option linter.unusedVariables false
set_option linter.unusedSimpArgs false
namespace Go.Proofs.YtbnpclndiichcaaGreatDoor
open Go Go.Proofs.YtbnpclndiichcaaGreatDoor.Eng
set_option maxRecDepth 100000
set_option maxHeartbeats 4000000
variable {G:Gs}
abbrev uQ0:Type:=Int×Int×Int×Int×Int×Int×Int×Unit
abbrev upL1:PL:=(.cons (.agg (.cons (.int .i64) (.cons (.int .i64) (.cons (.int .i64) (.cons (.int .i64) (.cons (.int .i64) (.cons (.int .i64) (.cons (.int .i64) .nil)))))))) (.cons (.int .i64) .nil))
abbrev upL2:PL:=(.cons (.int .i64) .nil)
abbrev upL3:PL:=(.cons (.slN 1) .nil)
abbrev upL4:PL:=(.cons (.sla 0) .nil)
abbrev upH5:PH:=(.cons 0 (.arrB 1) .nil)
abbrev upL6:PL:=(.cons (.ptr 0 0) .nil)
abbrev upH7:PH:=(.cons 0 (.cells [.sl 1,.bool] (.cons (.sla 1) (.cons .bool .nil))) (.cons 1 (.arrB 1) .nil))
abbrev upL8:PL:=(.cons (.int .i64) (.cons (.int .i64) .nil))
abbrev upL9:PL:=(.cons .bool .nil)
abbrev upL10:PL:=(.cons (.ptr 0 0) (.cons (.int .i64) .nil))
abbrev upL11:PL:=(.cons (.sla 1) .nil)
abbrev upH12:PH:=(.cons 0 (.cells [.sl 1,.bool] (.cons (.sla 2) (.cons .bool .nil))) (.cons 1 (.arrB 1) (.cons 2 (.arrB 1) .nil)))
abbrev uQ13:Type:=(Int×Int×Unit×Int×Int×Unit)×(Unit×Bool×Unit)×(List Eng.V×Bool×Bool)×(List Eng.V×Bool×Bool)×Unit
abbrev upT14:PT:=(.cons 1 (.int .i64) (.cons 4 (.int .i64) (.cons 12 (.sla 257) (.cons 13 (.int .i64) (.cons 14 (.int .i64) .nil)))))
abbrev upH15:PH:=(.cons 0 (.cells [.sl 1,.bool] (.cons (.sla 256) (.cons .bool .nil))) (.cons 256 (.arrB 1) (.cons 257 (.arrB 1) .nil)))
abbrev upH16:PH:=(.cons 0 (.cells [.sl 1,.bool] (.cons (.slN 1) (.cons .bool .nil))) .nil)
abbrev upT18:PT:=(.cons 0 (.ptr 0 0) (.cons 4 (.sla 672) (.cons 5 (.sla 688) (.cons 6 .bool (.cons 9 (.int .i64) (.cons 10 (.int .i64) .nil))))))
abbrev upL20:PL:=(.cons (.sla 1) (.cons (.sla 2) (.cons .bool .nil)))
abbrev upH21:PH:=(.cons 0 (.cells [.sl 1,.bool] (.cons (.sla 3) (.cons .bool .nil))) (.cons 1 (.arrB 3) (.cons 2 (.arrB 1) (.cons 3 (.arrB 1) .nil))))
abbrev upL22:PL:=(.cons .str (.cons (.int .i64) .nil))
abbrev upL23:PL:=(.cons .str (.cons .bool .nil))
abbrev upL24:PL:=(.cons (.int .u8) .nil)
abbrev uQ25:Type:=(List Eng.V×(Unit×Unit)×Int×Int×Int×Unit)×Unit
abbrev upT26:PT:=(.cons 0 (.slN 1) (.cons 1 (.fn (.func 128) .nil .nil) (.cons 4 (.int .i64) (.cons 7 (.int .i64) (.cons 8 (.int .i64) .nil)))))
abbrev upL27:PL:=(.cons (.slN 1) (.cons (.fn (.func 128) .nil .nil) .nil))
abbrev uQ28:Type:=(List Eng.V×List Eng.V×Bool×(Unit×Unit)×List Eng.V×Int×Int×Unit)×Unit
abbrev upT29:PT:=(.cons 0 (.slN 1) (.cons 1 (.slN 1) (.cons 4 .bool (.cons 5 (.fn (.func 128) .nil .nil) (.cons 8 (.slN 1) (.cons 9 (.int .i64) (.cons 10 (.int .i64) .nil)))))))
abbrev upL30:PL:=(.cons (.slN 1) (.cons (.slN 1) .nil))
abbrev uQ31:Type:=(Unit×Unit×Unit×Bool×Int×Int×Unit)×(List Eng.V×Bool×Unit)×(List Eng.V×Bool×Bool)×List Eng.V×List Eng.V×Unit
abbrev upH32:PH:=(.cons 0 (.cells [.sl 1,.bool] (.cons (.slN 1) (.cons .bool .nil))) (.cons 1 (.arrB 1) (.cons 672 (.arr 3 true false) (.cons 688 (.arr 1 true false) .nil))))
abbrev uQ33:Type:=Unit×Unit×Unit×ByteArray×Int×Unit
abbrev uQ34:Type:=(Int×Unit×Unit×Bool×Unit×Unit×Int×Int×Unit)×(Int×Int×Int×Int×Int×Int×Int×Unit)×(Unit×Unit×Unit×ByteArray×Int×Unit)×(Unit×Unit×Unit×ByteArray×Int×Unit)×(Unit×Bool×Unit)×(List Eng.V×Bool×Bool)×List Eng.V×Unit
abbrev uQ35:Type:=(Int×Unit×Unit×Bool×Unit×Unit×Unit×Unit×Bool×ByteArray×Int×Int×Unit)×(Int×Int×Int×Int×Int×Int×Int×Unit)×(Unit×Unit×Unit×ByteArray×Int×Unit)×(Unit×Unit×Unit×ByteArray×Int×Unit)×(Unit×Bool×Unit)×List Eng.V×(List Eng.V×Bool×Bool)×(List Eng.V×Bool×Bool)×(List Eng.V×Bool×Bool)×Unit
abbrev uQ36:Type:=(Int×Unit×Unit×Bool×Unit×Unit×Bool×Int×Int×Unit)×(Int×Int×Int×Int×Int×Int×Int×Unit)×(List Eng.V×List Eng.V×List Eng.V×ByteArray×Int×Unit)×(Unit×Unit×Unit×ByteArray×Int×Unit)×(Unit×Bool×Unit)×List Eng.V×(List Eng.V×Bool×Bool)×(List Eng.V×Bool×Bool)×List Eng.V×Unit
abbrev upT37:PT:=(.cons 2 (.int .i64) (.cons 3 (.ptr 112 0) (.cons 6 (.ptr 160 0) (.cons 7 .bool (.cons 9 (.ptr 608 0) (.cons 10 (.ptr 224 0) (.cons 15 .bool (.cons 109 (.int .i64) (.cons 110 (.int .i64) .nil)))))))))
abbrev upH38:PH:=(.cons 112 (.cells [.int .i64,.int .i64,.int .i64,.int .i64,.int .i64,.int .i64,.int .i64] (.cons (.int .i64) (.cons (.int .i64) (.cons (.int .i64) (.cons (.int .i64) (.cons (.int .i64) (.cons (.int .i64) (.cons (.int .i64) .nil)))))))) (.cons 160 (.cells [.sl 3,.sl 2,.sl 2,.str,.int .i64] (.cons (.slN 3) (.cons (.slN 2) (.cons (.slN 2) (.cons .str (.cons (.int .i64) .nil)))))) (.cons 224 (.cells [.sl 3,.sl 2,.sl 2,.str,.int .i64] (.cons (.sla 1249) (.cons (.sla 688) (.cons (.sla 2672) (.cons .str (.cons (.int .i64) .nil)))))) (.cons 608 (.cells [.sl 1,.bool] (.cons (.sla 1360) (.cons .bool .nil))) (.cons 688 (.arr 2 true false) (.cons 1249 (.arrB 3) (.cons 1360 (.arrB 1) (.cons 2672 (.arr 2 true false) .nil))))))))
abbrev upT39:PT:=(.cons 2 (.int .i64) (.cons 3 (.ptr 112 0) (.cons 6 (.ptr 160 0) (.cons 7 .bool (.cons 9 (.ptr 608 0) (.cons 10 (.ptr 224 0) (.cons 13 (.sla 1249) (.cons 14 (.sla 1250) (.cons 15 .bool (.cons 16 .str (.cons 84 (.int .i64) (.cons 85 (.int .i64) .nil))))))))))))
abbrev upH40:PH:=(.cons 112 (.cells [.int .i64,.int .i64,.int .i64,.int .i64,.int .i64,.int .i64,.int .i64] (.cons (.int .i64) (.cons (.int .i64) (.cons (.int .i64) (.cons (.int .i64) (.cons (.int .i64) (.cons (.int .i64) (.cons (.int .i64) .nil)))))))) (.cons 160 (.cells [.sl 3,.sl 2,.sl 2,.str,.int .i64] (.cons (.nl 3) (.cons (.nl 2) (.cons (.nl 2) (.cons .str (.cons (.int .i64) .nil)))))) (.cons 224 (.cells [.sl 3,.sl 2,.sl 2,.str,.int .i64] (.cons (.nl 3) (.cons (.sla 688) (.cons (.nl 2) (.cons .str (.cons (.int .i64) .nil)))))) (.cons 608 (.cells [.sl 1,.bool] (.cons (.sla 1360) (.cons .bool .nil))) (.cons 688 (.arr 2 true false) (.cons 1249 (.arrB 3) (.cons 1250 (.arrB 1) (.cons 1360 (.arrB 1) .nil))))))))
abbrev upT41:PT:=(.cons 2 (.int .i64) (.cons 3 (.ptr 112 0) (.cons 6 (.ptr 160 0) (.cons 7 .bool (.cons 9 (.ptr 608 0) (.cons 10 (.ptr 224 0) (.cons 58 (.int .i64) (.cons 59 (.int .i64) .nil))))))))
abbrev upH42:PH:=(.cons 112 (.cells [.int .i64,.int .i64,.int .i64,.int .i64,.int .i64,.int .i64,.int .i64] (.cons (.int .i64) (.cons (.int .i64) (.cons (.int .i64) (.cons (.int .i64) (.cons (.int .i64) (.cons (.int .i64) (.cons (.int .i64) .nil)))))))) (.cons 160 (.cells [.sl 3,.sl 2,.sl 2,.str,.int .i64] (.cons (.nl 3) (.cons (.nl 2) (.cons (.nl 2) (.cons .str (.cons (.int .i64) .nil)))))) (.cons 224 (.cells [.sl 3,.sl 2,.sl 2,.str,.int .i64] (.cons (.nl 3) (.cons (.sla 688) (.cons (.nl 2) (.cons .str (.cons (.int .i64) .nil)))))) (.cons 608 (.cells [.sl 1,.bool] (.cons (.sla 609) (.cons .bool .nil))) (.cons 609 (.arrB 1) (.cons 688 (.arr 2 true false) .nil))))))
abbrev upT43:PT:=(.cons 2 (.int .i64) (.cons 3 (.ptr 112 0) (.cons 6 (.ptr 160 0) (.cons 7 .bool (.cons 9 (.ptr 608 0) (.cons 10 (.ptr 224 0) (.cons 43 (.int .i64) (.cons 44 (.int .i64) .nil))))))))
abbrev upL44:PL:=(.cons (.agg (.cons (.int .i64) (.cons (.int .i64) (.cons (.int .i64) (.cons (.int .i64) (.cons (.int .i64) (.cons (.int .i64) (.cons (.int .i64) .nil)))))))) (.cons (.slN 1) (.cons (.int .i64) .nil)))
abbrev upL45:PL:=(.cons (.agg (.cons (.sla 0) (.cons (.sla 1) (.cons (.sla 2) (.cons .str (.cons (.int .i64) .nil)))))) (.cons .bool .nil))
abbrev upH46:PH:=(.cons 0 (.arrB 3) (.cons 1 (.arrB 2) (.cons 2 (.arrB 2) .nil)))
abbrev uQ47:Type:=(Int×Unit×Bool×Unit×Int×Unit)×(List Eng.V×Bool×Bool)×Unit
abbrev upT48:PT:=(.cons 1 (.int .i64) (.cons 6 (.nl 0) (.cons 7 .bool (.cons 8 (.sla 240) (.cons 9 (.int .i64) .nil)))))
abbrev upH49:PH:=(.cons 240 (.arrB 1) .nil)
abbrev upL50:PL:=(.cons (.slN 1) (.cons (.int .i64) (.cons (.int .i64) .nil)))
abbrev upL51:PL:=(.cons (.sla 0) (.cons .bool .nil))
abbrev uQ52:Type:=(Unit×Bool×Unit×(Int×Int×Int×Int×Int×Int×Unit)×Int×Unit)×(List Eng.V×Bool×Bool)×Unit
abbrev upT53:PT:=(.cons 2 (.nl 0) (.cons 3 .bool (.cons 4 (.sla 224) (.cons 34 (.agg (.cons (.int .i64) (.cons (.int .i64) (.cons (.int .i64) (.cons (.int .i64) (.cons (.int .i64) (.cons (.int .i64) .nil))))))) (.cons 35 (.int .i64) .nil)))))
abbrev upH54:PH:=(.cons 224 (.arrB 1) .nil)
abbrev upL55:PL:=(.cons (.agg (.cons (.int .i64) (.cons (.int .i64) (.cons (.int .i64) (.cons (.int .i64) (.cons (.int .i64) (.cons (.int .i64) (.cons (.int .i64) .nil)))))))) .nil)
abbrev upL56:PL:=(.cons (.ptr 0 0) (.cons (.int .i64) (.cons (.int .i64) .nil)))
abbrev uQ58:Type:=List Eng.V×List Eng.V×List Eng.V×ByteArray×Int×Unit
abbrev uQ59:Type:=(Int×Unit×Unit×Bool×ByteArray×Unit×Unit×List Eng.V×Int×Int×Unit)×(List Eng.V×List Eng.V×List Eng.V×ByteArray×Int×Unit)×(Unit×Bool×Unit)×(List Eng.V×Bool×Bool)×(List Eng.V×Bool×Bool)×Unit
abbrev uQ60:Type:=(Int×Unit×Bool×Unit×List Eng.V×Int×Int×Unit)×(Unit×Bool×Unit)×(List Eng.V×Bool×Bool)×Unit
abbrev upT61:PT:=(.cons 1 (.int .i64) (.cons 4 (.nl 0) (.cons 5 .bool (.cons 11 (.ptr 240 0) (.cons 91 (.slN 2) (.cons 92 (.int .i64) (.cons 93 (.int .i64) .nil)))))))
abbrev upH62:PH:=(.cons 240 (.cells [.sl 1,.bool] (.cons (.sla 2128) (.cons .bool .nil))) (.cons 2128 (.arrB 1) .nil))
abbrev upT63:PT:=(.cons 1 (.int .i64) (.cons 2 (.ptr 96 0) (.cons 4 (.nl 0) (.cons 5 .bool (.cons 8 .str (.cons 9 (.sla 656) (.cons 11 (.ptr 240 0) (.cons 65 (.slN 3) (.cons 66 (.int .i64) (.cons 67 (.int .i64) .nil))))))))))
abbrev upH64:PH:=(.cons 96 (.cells [.sl 3,.sl 2,.sl 2,.str,.int .i64] (.cons (.slN 3) (.cons (.slN 2) (.cons (.slN 2) (.cons .str (.cons (.int .i64) .nil)))))) (.cons 240 (.cells [.sl 1,.bool] (.cons (.sla 2128) (.cons .bool .nil))) (.cons 656 (.arrB 1) (.cons 2128 (.arrB 1) .nil))))
abbrev upT65:PT:=(.cons 1 (.int .i64) (.cons 2 (.ptr 96 0) (.cons 4 (.nl 0) (.cons 5 .bool (.cons 8 .str (.cons 9 (.sla 656) (.cons 11 (.ptr 240 0) (.cons 54 (.slN 2) (.cons 55 (.int .i64) (.cons 56 (.int .i64) .nil))))))))))
abbrev upT66:PT:=(.cons 1 (.int .i64) (.cons 2 (.ptr 96 0) (.cons 4 (.nl 0) (.cons 5 .bool (.cons 8 .str (.cons 9 (.sla 656) (.cons 11 (.ptr 240 0) (.cons 42 (.slN 2) (.cons 43 (.int .i64) (.cons 44 (.int .i64) .nil))))))))))
abbrev upL67:PL:=(.cons (.agg (.cons (.slN 3) (.cons (.slN 2) (.cons (.slN 2) (.cons .str (.cons (.int .i64) .nil)))))) (.cons (.int .i64) .nil))
abbrev upL68:PL:=(.cons (.nl 1) (.cons (.int .i64) .nil))
abbrev uQ69:Type:=(List Eng.V×Unit×Int×List Eng.V×Int×Int×Unit)×Unit
abbrev uQ70:Type:=(Unit×Unit×List Eng.V×Int×Int×Unit)×(List Eng.V×Bool×Bool)×Unit
abbrev upT71:PT:=(.cons 2 (.nl 0) (.cons 6 (.sla 448) (.cons 25 (.slN 1) (.cons 26 (.int .i64) (.cons 27 (.int .i64) .nil)))))
abbrev upH72:PH:=(.cons 448 (.arrB 1) .nil)
abbrev upT73:PT:=(.cons 0 (.slN 1) (.cons 2 (.nl 0) (.cons 3 (.int .i64) (.cons 9 (.slN 1) (.cons 10 (.int .i64) (.cons 11 (.int .i64) .nil))))))
abbrev upL74:PL:=(.cons (.agg (.cons (.slN 3) (.cons (.slN 2) (.cons (.slN 2) (.cons .str (.cons (.int .i64) .nil)))))) .nil)
abbrev upT75:PT:=(.cons 0 (.slN 1) (.cons 1 (.fn (.func 204) .nil .nil) (.cons 4 (.int .i64) (.cons 7 (.int .i64) (.cons 8 (.int .i64) .nil)))))
abbrev upL76:PL:=(.cons (.slN 1) (.cons (.fn (.func 204) .nil .nil) .nil))
abbrev upL77:PL:=(.cons (.agg (.cons (.int .i64) (.cons (.int .i64) (.cons (.int .i64) (.cons (.int .i64) (.cons (.int .i64) (.cons (.int .i64) (.cons (.int .i64) .nil)))))))) (.cons .bool .nil))
abbrev upL78:PL:=(.cons (.slN 1) (.cons (.int .i64) .nil))
abbrev upL79:PL:=(.cons (.agg (.cons (.int .i64) (.cons (.int .i64) (.cons (.int .i64) (.cons (.int .i64) (.cons (.int .i64) (.cons (.int .i64) (.cons (.int .i64) .nil)))))))) (.cons (.sla 0) (.cons (.sla 1) (.cons .bool .nil))))
abbrev upH80:PH:=(.cons 0 (.arrB 1) (.cons 1 (.arrB 1) .nil))
abbrev upL81:PL:=(.cons .str (.cons .str .nil))
abbrev upL82:PL:=(.cons (.agg (.cons (.sla 0) (.cons (.sla 1) (.cons (.sla 2) (.cons .str (.cons (.int .i64) .nil)))))) (.cons (.int .i64) .nil))
abbrev uQ83:Type:=(List Eng.V×List Eng.V×Bool×Int×Unit)×Unit
abbrev upT84:PT:=(.cons 0 (.slN 2) (.cons 1 (.slN 2) (.cons 4 .bool (.cons 5 (.int .i64) .nil))))
abbrev upL85:PL:=(.cons (.slN 2) (.cons (.slN 2) .nil))
abbrev uQ86:Type:=(Unit×Unit×Bool×Int×Unit)×(List Eng.V×List Eng.V×List Eng.V×ByteArray×Int×Unit)×(List Eng.V×List Eng.V×List Eng.V×ByteArray×Int×Unit)×Unit
abbrev upT87:PT:=(.cons 2 (.ptr 96 0) (.cons 3 (.ptr 112 0) (.cons 4 .bool (.cons 6 (.int .i64) .nil))))
abbrev upH88:PH:=(.cons 96 (.cells [.sl 3,.sl 2,.sl 2,.str,.int .i64] (.cons (.slN 3) (.cons (.slN 2) (.cons (.slN 2) (.cons .str (.cons (.int .i64) .nil)))))) (.cons 112 (.cells [.sl 3,.sl 2,.sl 2,.str,.int .i64] (.cons (.slN 3) (.cons (.slN 2) (.cons (.slN 2) (.cons .str (.cons (.int .i64) .nil)))))) .nil))
abbrev upT89:PT:=(.cons 2 (.ptr 96 0) (.cons 3 (.ptr 112 0) (.cons 4 .bool (.cons 5 (.int .i64) .nil))))
abbrev upL90:PL:=(.cons (.agg (.cons (.slN 3) (.cons (.slN 2) (.cons (.slN 2) (.cons .str (.cons (.int .i64) .nil)))))) (.cons (.agg (.cons (.slN 3) (.cons (.slN 2) (.cons (.slN 2) (.cons .str (.cons (.int .i64) .nil)))))) .nil))
abbrev upL97:PL:=(.cons (.slN 2) .nil)
abbrev uQ101:Type:=(Unit×Unit×Unit×Int×Unit)×(List Eng.V×List Eng.V×List Eng.V×ByteArray×Int×Unit)×List Eng.V×Unit
abbrev upT102:PT:=(.cons 1 (.ptr 80 0) (.cons 2 (.nl 0) (.cons 3 (.sla 416) (.cons 4 (.int .i64) .nil))))
abbrev upH103:PH:=(.cons 80 (.cells [.sl 3,.sl 2,.sl 2,.str,.int .i64] (.cons (.slN 3) (.cons (.slN 2) (.cons (.slN 2) (.cons .str (.cons (.int .i64) .nil)))))) (.cons 416 (.arr 1 true false) .nil))
abbrev uQ104:Type:=(ByteArray×Bool×Int×Unit)×Unit
abbrev upT105:PT:=(.cons 0 .str (.cons 2 .bool (.cons 3 (.int .i64) .nil)))
abbrev upL106:PL:=(.cons .str .nil)
abbrev uQ107:Type:=(List Eng.V×ByteArray×Unit×Bool×ByteArray×Unit×Int×Unit)×List Eng.V×Unit
abbrev uQ108:Type:=(List Eng.V×ByteArray×Unit×Bool×ByteArray×Unit×Int×Int×Int×Unit)×List Eng.V×Unit
abbrev upT109:PT:=(.cons 0 (.slN 1) (.cons 2 .str (.cons 3 (.nl 0) (.cons 4 .bool (.cons 5 .str (.cons 6 (.sla 1024) (.cons 7 (.int .i64) (.cons 8 (.int .i64) (.cons 9 (.int .i64) .nil)))))))))
abbrev upH110:PH:=(.cons 1024 (.arr 1 true false) .nil)
abbrev upT111:PT:=(.cons 0 (.slN 1) (.cons 2 .str (.cons 3 (.nl 0) (.cons 4 .bool (.cons 5 .str (.cons 6 (.sla 1024) (.cons 7 (.int .i64) .nil)))))))
abbrev upL112:PL:=(.cons .str (.cons (.sla 0) (.cons .bool .nil)))
abbrev upL113:PL:=(.cons (.slN 2) (.cons (.int .i64) .nil))
abbrev upL114:PL:=(.cons (.int .i64) (.cons .bool .nil))
abbrev uQ115:Type:=(List Eng.V×Int×Int×Int×Unit)×Unit
abbrev upT116:PT:=(.cons 0 (.slN 2) (.cons 2 (.int .i64) (.cons 3 (.int .i64) (.cons 4 (.int .i64) .nil))))
abbrev uQ117:Type:=(ByteArray×ByteArray×ByteArray×ByteArray×Bool×Int×Unit)×Unit
abbrev upT118:PT:=(.cons 0 .str (.cons 1 .str (.cons 4 .str (.cons 5 .str (.cons 6 .bool (.cons 7 (.int .i64) .nil))))))
abbrev upL119:PL:=(.cons .str (.cons .str (.cons .bool .nil)))
abbrev uQ120:Type:=(ByteArray×ByteArray×ByteArray×Bool×Int×Unit)×Unit
abbrev upT121:PT:=(.cons 0 .str (.cons 2 .str (.cons 3 .str (.cons 4 .bool (.cons 9 (.int .i64) .nil)))))
abbrev upL122:PL:=(.cons (.int .i64) (.cons .str .nil))
abbrev uQ123:Type:=(ByteArray×Int×ByteArray×Bool×ByteArray×Int×Int×Int×Unit)×Unit
abbrev upT124:PT:=(.cons 0 .str (.cons 2 (.int .i64) (.cons 3 .str (.cons 4 .bool (.cons 5 .str (.cons 6 (.int .i64) (.cons 7 (.int .i64) (.cons 8 (.int .i64) .nil))))))))
abbrev upL125:PL:=(.cons (.int .i64) (.cons .str (.cons .bool .nil)))
abbrev uQ126:Type:=Int×Bool×ByteArray×Unit
abbrev upL127:PL:=(.cons (.agg (.cons (.int .i64) (.cons .bool (.cons .str .nil)))) (.cons .bool .nil))
abbrev uQ128:Type:=Int×Int×Int×Int×Int×Unit
abbrev upL129:PL:=(.cons (.agg (.cons (.int .i64) (.cons (.int .i64) (.cons (.int .i64) (.cons (.int .i64) (.cons (.int .i64) .nil)))))) .nil)
abbrev uQ130:Type:=Int×Bool×ByteArray×Int×Bool×ByteArray×Bool×Int×Int×Int×Int×Int×Int×Int×Int×Int×Int×Unit
abbrev upL131:PL:=(.cons (.agg (.cons (.int .i64) (.cons .bool (.cons .str (.cons (.int .i64) (.cons .bool (.cons .str (.cons .bool (.cons (.int .i64) (.cons (.int .i64) (.cons (.int .i64) (.cons (.int .i64) (.cons (.int .i64) (.cons (.int .i64) (.cons (.int .i64) (.cons (.int .i64) (.cons (.int .i64) (.cons (.int .i64) .nil)))))))))))))))))) .nil)
abbrev upL132:PL:=(.cons (.agg (.cons (.int .i64) (.cons .bool (.cons .str (.cons (.int .i64) (.cons .bool (.cons .str (.cons .bool (.cons (.int .i64) (.cons (.int .i64) (.cons (.int .i64) (.cons (.int .i64) (.cons (.int .i64) (.cons (.int .i64) (.cons (.int .i64) (.cons (.int .i64) (.cons (.int .i64) (.cons (.int .i64) .nil)))))))))))))))))) (.cons .bool .nil))
abbrev uQ133:Type:=(ByteArray×Int×Int×Int×Int×ByteArray×Int×Int×Unit)×Unit
abbrev upT134:PT:=(.cons 0 .str (.cons 1 (.int .i64) (.cons 2 (.int .i64) (.cons 3 (.int .i64) (.cons 8 (.int .i64) (.cons 9 .str (.cons 10 (.int .i64) (.cons 11 (.int .i64) .nil))))))))
abbrev upL135:PL:=(.cons .str (.cons (.int .i64) (.cons (.int .i64) (.cons (.int .i64) .nil))))
abbrev upL136:PL:=(.cons (.agg (.cons (.int .i64) (.cons (.int .i64) (.cons (.int .i64) (.cons (.int .i64) (.cons (.int .i64) .nil)))))) (.cons .str .nil))
abbrev upL137:PL:=(.cons (.agg (.cons (.int .i64) (.cons (.int .i64) (.cons (.int .i64) (.cons (.int .i64) (.cons (.int .i64) .nil)))))) (.cons .str (.cons .bool .nil)))
abbrev uQ138:Type:=(Unit×Bool×Int×Unit)×(List Eng.V×List Eng.V×List Eng.V×ByteArray×Int×Unit)×Unit
abbrev upT139:PT:=(.cons 1 (.ptr 80 0) (.cons 2 .bool (.cons 9 (.int .i64) .nil)))
abbrev upH140:PH:=(.cons 80 (.cells [.sl 3,.sl 2,.sl 2,.str,.int .i64] (.cons (.slN 3) (.cons (.slN 2) (.cons (.slN 2) (.cons .str (.cons (.int .i64) .nil)))))) .nil)
abbrev upT141:PT:=(.cons 1 (.ptr 80 0) (.cons 2 .bool (.cons 8 (.int .i64) .nil)))
abbrev uQ142:Type:=(Int×Unit×Bool×Unit×Int×Unit)×List Eng.V×Unit
abbrev upT143:PT:=(.cons 1 (.int .i64) (.cons 6 (.nl 0) (.cons 7 .bool (.cons 8 (.sla 224) (.cons 9 (.int .i64) .nil)))))
abbrev upH144:PH:=(.cons 224 (.arr 1 true false) .nil)
abbrev uQ145:Type:=(Unit×Unit×Bool×Unit×Int×Unit)×(Int×Int×Int×Int×Int×Int×Int×Unit)×List Eng.V×Unit
abbrev uQ146:Type:=(Unit×Bool×Unit×Unit×Int×Unit)×(List Eng.V×Bool×Bool)×(List Eng.V×Bool×Bool)×Unit
abbrev upT147:PT:=(.cons 2 (.nl 0) (.cons 3 .bool (.cons 4 (.sla 272) (.cons 7 (.sla 768) (.cons 8 (.int .i64) .nil)))))
abbrev upH148:PH:=(.cons 272 (.arrB 1) (.cons 768 (.arrB 1) .nil))
abbrev upT149:PT:=(.cons 1 (.ptr 80 0) (.cons 2 (.nl 0) (.cons 3 .bool (.cons 4 (.sla 272) (.cons 6 (.int .i64) .nil)))))
abbrev upH150:PH:=(.cons 80 (.cells [.int .i64,.int .i64,.int .i64,.int .i64,.int .i64,.int .i64,.int .i64] (.cons (.int .i64) (.cons (.int .i64) (.cons (.int .i64) (.cons (.int .i64) (.cons (.int .i64) (.cons (.int .i64) (.cons (.int .i64) .nil)))))))) (.cons 272 (.arr 1 true false) .nil))
abbrev uQ151:Type:=(Int×Unit×Unit×Bool×ByteArray×Unit×Unit×Bool×Int×Unit)×(List Eng.V×List Eng.V×List Eng.V×ByteArray×Int×Unit)×(List Eng.V×Bool×Bool)×(List Eng.V×Bool×Bool)×Unit
abbrev uQ152:Type:=(Int×Unit×Unit×Bool×Unit×Bool×Int×Unit)×(List Eng.V×List Eng.V×List Eng.V×ByteArray×Int×Unit)×(List Eng.V×Bool×Bool)×Unit
abbrev upT153:PT:=(.cons 1 (.int .i64) (.cons 2 (.ptr 96 0) (.cons 4 (.nl 0) (.cons 5 .bool (.cons 11 (.sla 2912) (.cons 12 .bool (.cons 18 (.int .i64) .nil)))))))
abbrev upH154:PH:=(.cons 96 (.cells [.sl 3,.sl 2,.sl 2,.str,.int .i64] (.cons (.slN 3) (.cons (.slN 2) (.cons (.slN 2) (.cons .str (.cons (.int .i64) .nil)))))) (.cons 2912 (.arrB 1) .nil))
abbrev upT155:PT:=(.cons 1 (.int .i64) (.cons 2 (.ptr 96 0) (.cons 4 (.nl 0) (.cons 5 .bool (.cons 8 .str (.cons 9 (.sla 656) (.cons 11 (.sla 2912) (.cons 12 .bool (.cons 16 (.int .i64) .nil)))))))))
abbrev upH156:PH:=(.cons 96 (.cells [.sl 3,.sl 2,.sl 2,.str,.int .i64] (.cons (.slN 3) (.cons (.slN 2) (.cons (.slN 2) (.cons .str (.cons (.int .i64) .nil)))))) (.cons 656 (.arrB 1) (.cons 2912 (.arrB 1) .nil)))
abbrev upT157:PT:=(.cons 1 (.int .i64) (.cons 2 (.ptr 96 0) (.cons 4 (.nl 0) (.cons 5 .bool (.cons 8 .str (.cons 9 (.sla 656) (.cons 11 (.sla 2912) (.cons 12 .bool (.cons 15 (.int .i64) .nil)))))))))
abbrev upT158:PT:=(.cons 1 (.int .i64) (.cons 2 (.ptr 96 0) (.cons 4 (.nl 0) (.cons 5 .bool (.cons 8 .str (.cons 9 (.sla 656) (.cons 11 (.sla 2912) (.cons 12 .bool (.cons 14 (.int .i64) .nil)))))))))
abbrev upT159:PT:=(.cons 1 (.int .i64) (.cons 4 (.int .i64) (.cons 5 (.sla 385) (.cons 6 (.int .u64) (.cons 7 (.int .i64) .nil)))))
abbrev upH160:PH:=(.cons 0 (.cells [.sl 1,.bool] (.cons (.sla 384) (.cons .bool .nil))) (.cons 384 (.arrB 1) (.cons 385 (.arrB 1) .nil)))
abbrev uQ161:Type:=(List Eng.V×Bool×Int×Unit)×Unit
abbrev upT162:PT:=(.cons 0 (.slN 1) (.cons 2 .bool (.cons 3 (.int .i64) .nil)))
abbrev uQ163:Type:=(List Eng.V×ByteArray×Bool×Int×Unit)×Unit
abbrev upT164:PT:=(.cons 0 (.slN 1) (.cons 2 .str (.cons 3 .bool (.cons 4 (.int .i64) .nil))))
abbrev Tq3v:Type:=uQ0→Int→(Int→Prop)→Prop
def Yq3v (xq36:Tq36) (a0:uQ0) (a1:Int) (K:Int→Prop):Prop :=
 xq36 a0 (fun r2 =>
 (if (!r2) then
 (if (!r2) then
 K 0
 else
 (lt (w64 (a0.2.2.2.2.1 * w64 (a1+1))) fun v3 =>
 (lt (w64 (v3+w64 (a0.2.2.2.2.2.1 * 6))) fun v4 =>
 (lt (w64 (a0.2.2.2.1 * w64 (a1+4))) fun v5 =>
 (lt (w64 (w64 (v4+a0.2.2.2.2.2.2.1)+v5)) fun v6 =>
 (lt (w64 (w64 (v6+a0.2.2.1)+a0.2.1)) fun v7 =>
 K v7))))))
 else
 (if (a1 != 4) then
 (if (a1 != 8) then
 K 0
 else
 (lt (w64 (a0.2.2.2.2.1 * w64 (a1+1))) fun v8 =>
 (lt (w64 (v8+w64 (a0.2.2.2.2.2.1 * 6))) fun v9 =>
 (lt (w64 (a0.2.2.2.1 * w64 (a1+4))) fun v10 =>
 (lt (w64 (w64 (v9+a0.2.2.2.2.2.2.1)+v10)) fun v11 =>
 (lt (w64 (w64 (v11+a0.2.2.1)+a0.2.1)) fun v12 =>
 K v12))))))
 else
 (lt (w64 (a0.2.2.2.2.1 * w64 (a1+1))) fun v13 =>
 (lt (w64 (v13+w64 (a0.2.2.2.2.2.1 * 6))) fun v14 =>
 (lt (w64 (a0.2.2.2.1 * w64 (a1+4))) fun v15 =>
 (lt (w64 (w64 (v14+a0.2.2.2.2.2.2.1)+v15)) fun v16 =>
 (lt (w64 (w64 (v16+a0.2.2.1)+a0.2.1)) fun v17 =>
 K v17))))))))
def Xq3v:Tq3v:=Yq3v Xq36
def Jq3v (X:Tq3v):Inst:=mkI 40 upL1 .nil upL2 .nil X
def Iq3v:Inst:=Jq3v Xq3v
theorem Eq3v (xq36:Tq36):EqF Tryz.prog 39 gives Tryz.f40 [Jq36 xq36] [] (Jq3v (Yq3v xq36)):=fun x y K=>by kernel_rfl
theorem Iq3v_ok:InstOk Tryz.prog G.1 Iq3v:=iok (gives:=gives) [] (okCons Iq36_ok okNil) 39 follows Tryz.func40 (by kernel_rfl) (fun x=>by kernel_rfl) (Eq3v Xq36)
abbrev Tq0b:Type:=(List Eng.V)→((List Eng.V)→Bool→Bool→Prop)→Prop
def Yq0b (a0:(List Eng.V)) (K:(List Eng.V)→Bool→Bool→Prop):Prop :=
 (if List.length a0=(0:Nat) then
 (
 K [] true true
 ∧
 (if Eng.roomOk ((0:Nat)+List.length a0) (1:Nat) then
 K ([]++a0) true false
 else
 False))
 else
 (if Eng.roomOk ((0:Nat)+List.length a0) (1:Nat) then
 K ([]++a0) true false
 else
 False))
def Xq0b:Tq0b:=Yq0b
def Jq0b (X:Tq0b):Inst:=mkI 126 upL3 .nil upL4 upH5 X
def Iq0b:Inst:=Jq0b Xq0b
theorem Eq0b:EqF Tryz.prog 8 gives Tryz.f126 [] [] (Jq0b (Yq0b)):=fun x y K=>by kernel_rfl
theorem Iq0b_ok:InstOk Tryz.prog G.1 Iq0b:=iok (gives:=gives) [] okNil 8 follows Tryz.func126 (by kernel_rfl) (fun x=>by kernel_rfl) (Eq0b)
abbrev Tq3a:Type:=(List Eng.V)→(Bool→(List Eng.V)→Bool→Bool→Prop)→Prop
def Yq3a (xq0b:Tq0b) (a0:(List Eng.V)) (K:Bool→(List Eng.V)→Bool→Bool→Prop):Prop :=
 xq0b a0 (fun r1 r2 r3 =>
 K false r1 r2 r3)
def Xq3a:Tq3a:=Yq3a Xq0b
def Jq3a (X:Tq3a):Inst:=mkI 63 upL3 .nil upL6 upH7 X
def Iq3a:Inst:=Jq3a Xq3a
theorem Eq3a (xq0b:Tq0b):EqF Tryz.prog 7 gives Tryz.f63 [Jq0b xq0b] [] (Jq3a (Yq3a xq0b)):=fun x y K=>by kernel_rfl
theorem Iq3a_ok:InstOk Tryz.prog G.1 Iq3a:=iok (gives:=gives) [] (okCons Iq0b_ok okNil) 7 follows Tryz.func63 (by kernel_rfl) (fun x=>by kernel_rfl) (Eq3a Xq0b)
abbrev Tq3i:Type:=Int→Int→(Bool→Prop)→Prop
def Yq3i (a0:Int) (a1:Int) (K:Bool→Prop):Prop :=
 (if (a1 == 1) then
 K (a0 == w64 (wu8 a0))
 else
 (if (a1 == 4) then
 (if (a0 != w64 (wi32 a0)) then
 K false
 else
 K true)
 else
 (if (a1 == 8) then
 K true
 else
 K false)))
def Xq3i:Tq3i:=Yq3i
def Jq3i (X:Tq3i):Inst:=mkI 127 upL8 .nil upL9 .nil X
def Iq3i:Inst:=Jq3i Xq3i
theorem Eq3i:EqF Tryz.prog 22 gives Tryz.f127 [] [] (Jq3i (Yq3i)):=fun x y K=>by kernel_rfl
theorem Iq3i_ok:InstOk Tryz.prog G.1 Iq3i:=iok (gives:=gives) [] okNil 22 follows Tryz.func127 (by kernel_rfl) (fun x=>by kernel_rfl) (Eq3i)
abbrev Tq0v:Type:=Int→Bool→(List Eng.V)→Bool→Bool→(Bool→(List Eng.V)→Bool→Bool→(List Eng.V)→Bool→Bool→Prop)→Prop
def Yq0v (xq0b:Tq0b) (a0:Int) (a1:Bool) (a2:(List Eng.V)) (a3:Bool) (a4:Bool) (K:Bool→(List Eng.V)→Bool→Bool→(List Eng.V)→Bool→Bool→Prop):Prop :=
 (if a1 then
 K true [] true true [] true true
 else
 (if decide (a0 < 0) then
 K true [] true true [] true true
 else
 (if decide (a0 > (↑(List.length a2):Int)) then
 K true [] true true [] true true
 else
 (if 0≤a0∧a0≤(↑(List.length a2):Int) then
 (if (0 :Int)≤0∧0≤a0 then
 xq0b (Eng.cutL a2 (0:Nat) (Int.toNat a0 - (0:Nat))) (fun r5 r6 r7 =>
 (if 0≤(↑(List.length a2):Int)∧(↑(List.length a2):Int)≤(↑(List.length a2):Int) then
 (if 0≤a0∧a0≤(↑(List.length a2):Int) then
 K a1 r5 r6 r7 (Eng.cutL a2 (Int.toNat a0) (Int.toNat (↑(List.length a2):Int) - Int.toNat a0)) false true
 else
 False)
 else
 False))
 else
 False)
 else
 False))))
def Xq0v:Tq0v:=Yq0v Xq0b
def Jq0v (X:Tq0v):Inst:=mkI 66 upL10 upH7 upL11 upH12 X
def Iq0v:Inst:=Jq0v Xq0v
theorem Eq0v (xq0b:Tq0b):EqF Tryz.prog 46 gives Tryz.f66 [Jq0b xq0b] [] (Jq0v (Yq0v xq0b)):=fun x y K=>by kernel_rfl
theorem Iq0v_ok:InstOk Tryz.prog G.1 Iq0v:=iok (gives:=gives) [] (okCons Iq0b_ok okNil) 46 follows Tryz.func66 (by kernel_rfl) (fun x=>by kernel_rfl) (Eq0v Xq0b)
abbrev Tq1l:Type:=Int→Bool→(List Eng.V)→Bool→Bool→(Int→Bool→(List Eng.V)→Bool→Bool→Prop)→Prop
def Lq1l_0 (K:Int→Bool→(List Eng.V)→Bool→Bool→Prop) (a1:Bool) (a2:(List Eng.V)) (a3:Bool) (a4:Bool):(uQ13→Prop)→uQ13→Prop:=fun k13 x14 =>
 (if decide (x14.1.2.2.2.2.1 < x14.1.2.2.2.1) then
 (if 0≤x14.1.2.2.2.2.1∧x14.1.2.2.2.2.1 < (↑(List.length x14.2.2.2.1.1):Int) then
 (Eng.asInt IntKind.u8 (Eng.getC x14.2.2.2.1.1 (Int.toNat x14.1.2.2.2.2.1) (0:Nat)) False fun n15 =>
 (if (x14.1.2.2.2.2.1 == 0) then
 (if (x14.1.1 == 4) then
 k13 ((x14.1.1,w64 (IntKind.wrap IntKind.i8 n15),(),x14.1.2.2.2.1,w64 (x14.1.2.2.2.2.1+1),()),((),x14.2.1.2),x14.2.2)
 else
 (lt (w64 (↑(BitVec.toNat (BitVec.ofInt (64:Nat) (w64 (x14.1.2.1 * 256)) ||| BitVec.ofInt (64:Nat) (w64 n15))):Int)) fun v16 =>
 k13 ((x14.1.1,v16,(),x14.1.2.2.2.1,w64 (x14.1.2.2.2.2.1+1),()),((),x14.2.1.2),x14.2.2)))
 else
 (lt (w64 (↑(BitVec.toNat (BitVec.ofInt (64:Nat) (w64 (x14.1.2.1 * 256)) ||| BitVec.ofInt (64:Nat) (w64 n15))):Int)) fun v17 =>
 k13 ((x14.1.1,v17,(),x14.1.2.2.2.1,w64 (x14.1.2.2.2.2.1+1),()),((),x14.2.1.2),x14.2.2))))
 else
 False)
 else
 K x14.1.2.1 x14.2.1.2.1 x14.2.2.1.1 x14.2.2.1.2.1 x14.2.2.1.2.2)
def Lq1l_0p:Lp:=⟨28690,[.trim 28690],upT14,upH15,0⟩
def Yq1l (xq3i:Tq3i) (xq0v:Tq0v) (a0:Int) (a1:Bool) (a2:(List Eng.V)) (a3:Bool) (a4:Bool) (K:Int→Bool→(List Eng.V)→Bool→Bool→Prop):Prop :=
 xq3i 0 a0 (fun r5 =>
 (if (!r5) then
 xq0v (-1) a1 a2 a3 a4 (fun r6 r7 r8 r9 r10 r11 r12 =>
 lp (Lq1l_0 K a1 a2 a3 a4) (((-1),0,(),(↑(List.length r7):Int),0,()),((),r6,()),(r10,r11,r12),(r7,r8,r9),()))
 else
 xq0v a0 a1 a2 a3 a4 (fun r18 r19 r20 r21 r22 r23 r24 =>
 lp (Lq1l_0 K a1 a2 a3 a4) ((a0,0,(),(↑(List.length r19):Int),0,()),((),r18,()),(r22,r23,r24),(r19,r20,r21),()))))
def Xq1l:Tq1l:=Yq1l Xq3i Xq0v
def Jq1l (X:Tq1l):Inst:=mkI 64 upL10 upH7 upL2 upH7 X
def Iq1l:Inst:=Jq1l Xq1l
theorem Eq1l (xq3i:Tq3i) (xq0v:Tq0v):EqF Tryz.prog 35 gives Tryz.f64 [Jq3i xq3i,Jq0v xq0v] [Lq1l_0p] (Jq1l (Yq1l xq3i xq0v)):=fun x y K=>by kernel_rfl
theorem Iq1l_ok:InstOk Tryz.prog G.1 Iq1l:=iok (gives:=gives) [Lq1l_0p] (okCons Iq3i_ok (okCons Iq0v_ok okNil)) 35 follows Tryz.func64 (by kernel_rfl) (fun x=>by kernel_rfl) (Eq1l Xq3i Xq0v)
abbrev Tq0j:Type:=Int→(List Eng.V)→Bool→(Bool→(List Eng.V)→Bool→Bool→(List Eng.V)→Bool→Bool→Prop)→Prop
def Yq0j (xq0b:Tq0b) (a0:Int) (a1:(List Eng.V)) (a2:Bool) (K:Bool→(List Eng.V)→Bool→Bool→(List Eng.V)→Bool→Bool→Prop):Prop :=
 (if a2 then
 K true [] true true [] true true
 else
 (if decide (a0 < 0) then
 K true [] true true [] true true
 else
 (if decide (a0 > (↑(List.length a1):Int)) then
 K true [] true true [] true true
 else
 (if 0≤a0∧a0≤(↑(List.length a1):Int) then
 (if (0 :Int)≤0∧0≤a0 then
 xq0b (Eng.cutL a1 (0:Nat) (Int.toNat a0 - (0:Nat))) (fun r3 r4 r5 =>
 (if 0≤(↑(List.length a1):Int)∧(↑(List.length a1):Int)≤(↑(List.length a1):Int) then
 (if 0≤a0∧a0≤(↑(List.length a1):Int) then
 K a2 r3 r4 r5 (Eng.cutL a1 (Int.toNat a0) (Int.toNat (↑(List.length a1):Int) - Int.toNat a0)) false true
 else
 False)
 else
 False))
 else
 False)
 else
 False))))
def Xq0j:Tq0j:=Yq0j Xq0b
def Jq0j (X:Tq0j):Inst:=mkI 66 upL10 upH16 upL11 upH12 X
def Iq0j:Inst:=Jq0j Xq0j
theorem Eq0j (xq0b:Tq0b):EqF Tryz.prog 46 gives Tryz.f66 [Jq0b xq0b] [] (Jq0j (Yq0j xq0b)):=fun x y K=>by kernel_rfl
theorem Iq0j_ok:InstOk Tryz.prog G.1 Iq0j:=iok (gives:=gives) [] (okCons Iq0b_ok okNil) 46 follows Tryz.func66 (by kernel_rfl) (fun x=>by kernel_rfl) (Eq0j Xq0b)
abbrev Tq0o:Type:=Int→(List Eng.V)→Bool→(Int→Bool→(List Eng.V)→Bool→Bool→Prop)→Prop
def Lq0o_0 (K:Int→Bool→(List Eng.V)→Bool→Bool→Prop) (a1:(List Eng.V)) (a2:Bool):(uQ13→Prop)→uQ13→Prop:=fun k11 x12 =>
 (if decide (x12.1.2.2.2.2.1 < x12.1.2.2.2.1) then
 (if 0≤x12.1.2.2.2.2.1∧x12.1.2.2.2.2.1 < (↑(List.length x12.2.2.2.1.1):Int) then
 (Eng.asInt IntKind.u8 (Eng.getC x12.2.2.2.1.1 (Int.toNat x12.1.2.2.2.2.1) (0:Nat)) False fun n13 =>
 (if (x12.1.2.2.2.2.1 == 0) then
 (if (x12.1.1 == 4) then
 k11 ((x12.1.1,w64 (IntKind.wrap IntKind.i8 n13),(),x12.1.2.2.2.1,w64 (x12.1.2.2.2.2.1+1),()),((),x12.2.1.2),x12.2.2)
 else
 (lt (w64 (↑(BitVec.toNat (BitVec.ofInt (64:Nat) (w64 (x12.1.2.1 * 256)) ||| BitVec.ofInt (64:Nat) (w64 n13))):Int)) fun v14 =>
 k11 ((x12.1.1,v14,(),x12.1.2.2.2.1,w64 (x12.1.2.2.2.2.1+1),()),((),x12.2.1.2),x12.2.2)))
 else
 (lt (w64 (↑(BitVec.toNat (BitVec.ofInt (64:Nat) (w64 (x12.1.2.1 * 256)) ||| BitVec.ofInt (64:Nat) (w64 n13))):Int)) fun v15 =>
 k11 ((x12.1.1,v15,(),x12.1.2.2.2.1,w64 (x12.1.2.2.2.2.1+1),()),((),x12.2.1.2),x12.2.2))))
 else
 False)
 else
 K x12.1.2.1 x12.2.1.2.1 x12.2.2.1.1 x12.2.2.1.2.1 x12.2.2.1.2.2)
def Lq0o_0p:Lp:=⟨28690,[.trim 28690],upT14,upH15,0⟩
def Yq0o (xq3i:Tq3i) (xq0j:Tq0j) (a0:Int) (a1:(List Eng.V)) (a2:Bool) (K:Int→Bool→(List Eng.V)→Bool→Bool→Prop):Prop :=
 xq3i 0 a0 (fun r3 =>
 (if (!r3) then
 xq0j (-1) a1 a2 (fun r4 r5 r6 r7 r8 r9 r10 =>
 lp (Lq0o_0 K a1 a2) (((-1),0,(),(↑(List.length r5):Int),0,()),((),r4,()),(r8,r9,r10),(r5,r6,r7),()))
 else
 xq0j a0 a1 a2 (fun r16 r17 r18 r19 r20 r21 r22 =>
 lp (Lq0o_0 K a1 a2) ((a0,0,(),(↑(List.length r17):Int),0,()),((),r16,()),(r20,r21,r22),(r17,r18,r19),()))))
def Xq0o:Tq0o:=Yq0o Xq3i Xq0j
def Jq0o (X:Tq0o):Inst:=mkI 64 upL10 upH16 upL2 upH7 X
def Iq0o:Inst:=Jq0o Xq0o
theorem Eq0o (xq3i:Tq3i) (xq0j:Tq0j):EqF Tryz.prog 35 gives Tryz.f64 [Jq3i xq3i,Jq0j xq0j] [Lq0o_0p] (Jq0o (Yq0o xq3i xq0j)):=fun x y K=>by kernel_rfl
theorem Iq0o_ok:InstOk Tryz.prog G.1 Iq0o:=iok (gives:=gives) [Lq0o_0p] (okCons Iq3i_ok (okCons Iq0j_ok okNil)) 35 follows Tryz.func64 (by kernel_rfl) (fun x=>by kernel_rfl) (Eq0o Xq3i Xq0j)
abbrev Tq3z:Type:=ByteArray→Int→(ByteArray→Bool→Prop)→Prop
def Yq3z (xq2y:Tq2y) (xq38:Tq38) (a0:ByteArray) (a1:Int) (K:ByteArray→Bool→Prop):Prop :=
 (if decide (a1 < 0) then
 K (ByteArray.mk #[]) false
 else
 (if decide (a1≥(↑(ByteArray.size a0):Int)) then
 K (ByteArray.mk #[]) false
 else
 (if 0≤(↑(ByteArray.size a0):Int)∧(↑(ByteArray.size a0):Int)≤(↑(ByteArray.size a0):Int) then
 (if 0≤a1∧a1≤(↑(ByteArray.size a0):Int) then
 xq2y (ByteArray.extract a0 (Int.toNat a1) (Int.toNat (↑(ByteArray.size a0):Int))) (ByteArray.mk #[(0:UInt8)]) (fun r2 r3 r4 =>
 (if (!r4) then
 K (ByteArray.mk #[]) false
 else
 xq38 r2 (fun r5 =>
 (if (!r5) then
 K (ByteArray.mk #[]) false
 else
 K r2 true))))
 else
 False)
 else
 False)))
def Xq3z:Tq3z:=Yq3z Xq2y Xq38
def Jq3z (X:Tq3z):Inst:=mkI 67 upL22 .nil upL23 .nil X
def Iq3z:Inst:=Jq3z Xq3z
theorem Eq3z (xq2y:Tq2y) (xq38:Tq38):EqF Tryz.prog 33 gives Tryz.f67 [Jq2y xq2y,Jq38 xq38] [] (Jq3z (Yq3z xq2y xq38)):=fun x y K=>by kernel_rfl
theorem Iq3z_ok:InstOk Tryz.prog G.1 Iq3z:=iok (gives:=gives) [] (okCons Iq2y_ok (okCons Iq38_ok okNil)) 33 follows Tryz.func67 (by kernel_rfl) (fun x=>by kernel_rfl) (Eq3z Xq2y Xq38)
abbrev Tq2d:Type:=Int→(Bool→Prop)→Prop
def Yq2d (a0:Int) (K:Bool→Prop):Prop :=
 K (decide (a0 > 1))
def Xq2d:Tq2d:=Yq2d
def Jq2d (X:Tq2d):Inst:=mkI 128 upL24 .nil upL9 .nil X
def Iq2d:Inst:=Jq2d Xq2d
theorem Eq2d:EqF Tryz.prog 5 gives Tryz.f128 [] [] (Jq2d (Yq2d)):=fun x y K=>by kernel_rfl
theorem Iq2d_ok:InstOk Tryz.prog G.1 Iq2d:=iok (gives:=gives) [] okNil 5 follows Tryz.func128 (by kernel_rfl) (fun x=>by kernel_rfl) (Eq2d)
abbrev Tq08:Type:=(List Eng.V)→(Int→Prop)→Prop
def Lq08_0 (xq2d:Tq2d) (K:Int→Prop):(uQ25→Prop)→uQ25→Prop:=fun k1 x2 =>
 (if decide (x2.1.2.2.2.2.1 < x2.1.2.2.2.1) then
 (if 0≤x2.1.2.2.2.2.1∧x2.1.2.2.2.2.1 < (↑(List.length x2.1.1):Int) then
 (Eng.asInt IntKind.u8 (Eng.getC x2.1.1 (Int.toNat x2.1.2.2.2.2.1) (0:Nat)) False fun n3 =>
 xq2d n3 (fun r4 =>
 (if r4 then
 K x2.1.2.2.2.2.1
 else
 k1 ((x2.1.1,((),()),x2.1.2.2.1,x2.1.2.2.2.1,w64 (x2.1.2.2.2.2.1+1),()),()))))
 else
 False)
 else
 K (-1))
def Lq08_0p:Lp:=⟨403,[.trim 403],upT26,.nil,0⟩
def Yq08 (xq2d:Tq2d) (a0:(List Eng.V)) (K:Int→Prop):Prop :=
 lp (Lq08_0 xq2d K) ((a0,((),()),0,(↑(List.length a0):Int),0,()),())
def Xq08:Tq08:=Yq08 Xq2d
def Jq08 (X:Tq08):Inst:=mkI 181 upL27 .nil upL2 .nil X
def Iq08:Inst:=Jq08 Xq08
theorem Eq08 (xq2d:Tq2d):EqF Tryz.prog 19 gives Tryz.f181 [Jq2d xq2d] [Lq08_0p] (Jq08 (Yq08 xq2d)):=fun x y K=>by kernel_rfl
theorem Iq08_ok:InstOk Tryz.prog G.1 Iq08:=iok (gives:=gives) [Lq08_0p] (okCons Iq2d_ok okNil) 19 follows Tryz.func181 (by kernel_rfl) (fun x=>by kernel_rfl) (Eq08 Xq2d)
abbrev Tq01:Type:=(List Eng.V)→(Bool→Prop)→Prop
def Yq01 (xq08:Tq08) (a0:(List Eng.V)) (K:Bool→Prop):Prop :=
 xq08 a0 (fun r1 =>
 K (decide (r1≥0)))
def Xq01:Tq01:=Yq01 Xq08
def Jq01 (X:Tq01):Inst:=mkI 129 upL27 .nil upL9 .nil X
def Iq01:Inst:=Jq01 Xq01
theorem Eq01 (xq08:Tq08):EqF Tryz.prog 9 gives Tryz.f129 [Jq08 xq08] [] (Jq01 (Yq01 xq08)):=fun x y K=>by kernel_rfl
theorem Iq01_ok:InstOk Tryz.prog G.1 Iq01:=iok (gives:=gives) [] (okCons Iq08_ok okNil) 9 follows Tryz.func129 (by kernel_rfl) (fun x=>by kernel_rfl) (Eq01 Xq08)
abbrev Tq2p:Type:=(List Eng.V)→(List Eng.V)→(Bool→Prop)→Prop
def Lq2p_0 (xq01:Tq01) (K:Bool→Prop):(uQ28→Prop)→uQ28→Prop:=fun k2 x3 =>
 (if decide (x3.1.2.2.2.2.2.2.1 < x3.1.2.2.2.2.2.1) then
 (if 0≤x3.1.2.2.2.2.2.2.1∧x3.1.2.2.2.2.2.2.1 < (↑(List.length x3.1.2.2.2.2.1):Int) then
 (Eng.asInt IntKind.u8 (Eng.getC x3.1.2.2.2.2.1 (Int.toNat x3.1.2.2.2.2.2.2.1) (0:Nat)) False fun n4 =>
 (if (n4 == 1) then
 (if decide (x3.1.2.2.2.2.2.2.1≥(↑(List.length x3.1.1):Int)) then
 K false
 else
 (if 0≤x3.1.2.2.2.2.2.2.1∧x3.1.2.2.2.2.2.2.1 < (↑(List.length x3.1.1):Int) then
 (Eng.asInt IntKind.u8 (Eng.getC x3.1.1 (Int.toNat x3.1.2.2.2.2.2.2.1) (0:Nat)) False fun n5 =>
 (if (n5 != 1) then
 K false
 else
 k2 ((x3.1.1,x3.1.2.1,x3.1.2.2.1,((),()),x3.1.2.2.2.2.1,x3.1.2.2.2.2.2.1,w64 (x3.1.2.2.2.2.2.2.1+1),()),())))
 else
 False))
 else
 k2 ((x3.1.1,x3.1.2.1,x3.1.2.2.1,((),()),x3.1.2.2.2.2.1,x3.1.2.2.2.2.2.1,w64 (x3.1.2.2.2.2.2.2.1+1),()),())))
 else
 False)
 else
 xq01 x3.1.1 (fun r6 =>
 (if (!r6) then
 xq01 x3.1.2.1 (fun r7 =>
 K !r7)
 else
 K false)))
def Lq2p_0p:Lp:=⟨1843,[.trim 1843],upT29,.nil,0⟩
def Yq2p (xq01:Tq01) (a0:(List Eng.V)) (a1:(List Eng.V)) (K:Bool→Prop):Prop :=
 lp (Lq2p_0 xq01 K) ((a0,a1,false,((),()),a1,(↑(List.length a1):Int),0,()),())
def Xq2p:Tq2p:=Yq2p Xq01
def Jq2p (X:Tq2p):Inst:=mkI 68 upL30 .nil upL9 .nil X
def Iq2p:Inst:=Jq2p Xq2p
theorem Eq2p (xq01:Tq01):EqF Tryz.prog 41 gives Tryz.f68 [Jq01 xq01] [Lq2p_0p] (Jq2p (Yq2p xq01)):=fun x y K=>by kernel_rfl
theorem Iq2p_ok:InstOk Tryz.prog G.1 Iq2p:=iok (gives:=gives) [Lq2p_0p] (okCons Iq01_ok okNil) 41 follows Tryz.func68 (by kernel_rfl) (fun x=>by kernel_rfl) (Eq2p Xq01)
abbrev Tq2g:Type:=Int→Bool→(List Eng.V)→Bool→Bool→(Bool→Bool→(List Eng.V)→Bool→Bool→(List Eng.V)→Bool→Bool→(List Eng.V)→Bool→Bool→Prop)→Prop
def Lq2g_0 (xq0o:Tq0o) (xq1l:Tq1l) (K:Bool→Bool→(List Eng.V)→Bool→Bool→(List Eng.V)→Bool→Bool→(List Eng.V)→Bool→Bool→Prop) (a1:Bool) (a2:(List Eng.V)) (a3:Bool) (a4:Bool):(uQ31→Prop)→uQ31→Prop:=fun k5 x6 =>
 (if decide (x6.1.2.2.2.2.2.1 < x6.1.2.2.2.2.1) then
 xq0o 4 x6.2.1.1 x6.2.1.2.1 (fun r7 r8 r9 r10 r11 =>
 xq1l 1 r8 r9 r10 r11 (fun r12 r13 r14 r15 r16 =>
 (if Eng.roomOk (List.length x6.2.2.2.1+List.length [Eng.V.agg [Eng.V.c (Value.int IntKind.i64 r7),Eng.V.c (Value.bool (r12 == 1)),Eng.V.c (Value.string (ByteArray.mk #[]))]]) (32:Nat) then
 (lt (x6.2.2.2.1++[Eng.V.agg [Eng.V.c (Value.int IntKind.i64 r7),Eng.V.c (Value.bool (r12 == 1)),Eng.V.c (Value.string (ByteArray.mk #[]))]]) fun v17 =>
 xq1l 1 r13 r14 r15 r16 (fun r18 r19 r20 r21 r22 =>
 (if Eng.roomOk (List.length x6.2.2.2.2.1+List.length [Eng.V.c (Value.int IntKind.i64 r18)]) (8:Nat) then
 (if x6.1.2.2.2.1 then
 k5 (((),(),(),decide (r12 < 2),x6.1.2.2.2.2.1,w64 (x6.1.2.2.2.2.2.1+1),()),(r20,r19,()),(x6.2.2.1.1,x6.2.2.1.2.1,true),v17,x6.2.2.2.2.1++[Eng.V.c (Value.int IntKind.i64 r18)],())
 else
 k5 (((),(),(),false,x6.1.2.2.2.2.1,w64 (x6.1.2.2.2.2.2.1+1),()),(r20,r19,()),(x6.2.2.1.1,x6.2.2.1.2.1,true),v17,x6.2.2.2.2.1++[Eng.V.c (Value.int IntKind.i64 r18)],()))
 else
 False)))
 else
 False)))
 else
 K x6.1.2.2.2.1 x6.2.1.2.1 x6.2.2.2.1 true false x6.2.2.2.2.1 true false x6.2.1.1 false true)
def Lq2g_0p:Lp:=⟨1649,[.trim 1649,.thin 1,.trim 1649,.thin 480,.trim 1649,.fat 4 3 672,.trim 1649,.fat 5 1 688,.trim 1649],upT18,upH32,0⟩
def Yq2g (xq0o:Tq0o) (xq1l:Tq1l) (a0:Int) (a1:Bool) (a2:(List Eng.V)) (a3:Bool) (a4:Bool) (K:Bool→Bool→(List Eng.V)→Bool→Bool→(List Eng.V)→Bool→Bool→(List Eng.V)→Bool→Bool→Prop):Prop :=
 lp (Lq2g_0 xq0o xq1l K a1 a2 a3 a4) (((),(),(),true,a0,0,()),(a2,a1,()),(a2,a3,true),[],[],())
def Xq2g:Tq2g:=Yq2g Xq0o Xq1l
def Jq2g (X:Tq2g):Inst:=mkI 65 upL10 upH7 upL20 upH21 X
def Iq2g:Inst:=Jq2g Xq2g
theorem Eq2g (xq0o:Tq0o) (xq1l:Tq1l):EqF Tryz.prog 38 gives Tryz.f65 [Jq0o xq0o,Jq1l xq1l] [Lq2g_0p] (Jq2g (Yq2g xq0o xq1l)):=fun x y K=>by kernel_rfl
theorem Iq2g_ok:InstOk Tryz.prog G.1 Iq2g:=iok (gives:=gives) [Lq2g_0p] (okCons Iq0o_ok (okCons Iq1l_ok okNil)) 38 follows Tryz.func65 (by kernel_rfl) (fun x=>by kernel_rfl) (Eq2g Xq0o Xq1l)
abbrev Tq2n:Type:=uQ0→(List Eng.V)→Int→(uQ33→Bool→(List Eng.V)→Bool→Bool→(List Eng.V)→Bool→Bool→(List Eng.V)→Bool→Bool→Prop)→Prop
def Lq2n_11 (xq1l:Tq1l) (xq0v:Tq0v) (xq2p:Tq2p) (K:uQ33→Bool→(List Eng.V)→Bool→Bool→(List Eng.V)→Bool→Bool→(List Eng.V)→Bool→Bool→Prop) (k136:uQ34→Prop) (k143:uQ34→Prop) (k168:uQ35→Prop):(uQ36→Prop)→uQ36→Prop:=fun k173 x174 =>
 (if decide (x174.1.2.2.2.2.2.2.2.2.1 < x174.1.2.2.2.2.2.2.2.1) then
 xq1l x174.1.1 x174.2.2.2.2.1.2.1 x174.2.2.2.2.2.2.2.1.1 x174.2.2.2.2.2.2.2.1.2.1 x174.2.2.2.2.2.2.2.1.2.2 (fun r175 r176 r177 r178 r179 =>
 xq1l 4 r176 r177 r178 r179 (fun r180 r181 r182 r183 r184 =>
 (if Eng.roomOk (List.length x174.2.2.2.2.2.2.2.2.1+List.length [Eng.V.agg [Eng.V.c (Value.int IntKind.i64 r175),Eng.V.c (Value.int IntKind.i64 r180)]]) (16:Nat) then
 k173 ((x174.1.1,(),(),x174.1.2.2.2.1,(),(),x174.1.2.2.2.2.2.2.1,x174.1.2.2.2.2.2.2.2.1,w64 (x174.1.2.2.2.2.2.2.2.2.1+1),()),x174.2.1,x174.2.2.1,((),(),(),x174.2.2.2.1.2.2.2),((),r181,()),x174.2.2.2.2.2.1,x174.2.2.2.2.2.2.1,(r182,r183,r184),x174.2.2.2.2.2.2.2.2.1++[Eng.V.agg [Eng.V.c (Value.int IntKind.i64 r175),Eng.V.c (Value.int IntKind.i64 r180)]],())
 else
 False)))
 else
 xq0v x174.2.1.2.2.1 x174.2.2.2.2.1.2.1 x174.2.2.2.2.2.2.2.1.1 x174.2.2.2.2.2.2.2.1.2.1 x174.2.2.2.2.2.2.2.1.2.2 (fun r185 r186 r187 r188 r189 r190 r191 =>
 xq0v x174.2.1.2.1 r185 r189 r190 r191 (fun r192 r193 r194 r195 r196 r197 r198 =>
 xq2p r186 r193 (fun r199 =>
 (if (!r199) then
 K ((),(),(),ByteArray.mk #[],0,()) false [] true true [] true true [] true true
 else
 (if (!x174.1.2.2.2.2.2.2.1) then
 K ((),(),(),ByteArray.mk #[],0,()) false [] true true [] true true [] true true
 else
 K ((),(),(),x174.2.2.2.1.2.2.2) true x174.2.2.2.2.2.2.1.1 x174.2.2.2.2.2.2.1.2.1 x174.2.2.2.2.2.2.1.2.2 x174.2.2.2.2.2.1 true false x174.2.2.2.2.2.2.2.2.1 true false))))))
def Lq2n_11p:Lp:=⟨1947111321950560360698936123492044,[.trim 1947111321950560360698936123492044,.trim 1947111321950560360698936123492044,.trim 1947111321950560360698936123492044,.trim 1947111321950560360698936123492044,.ren 1936 1360,.fatC 224 2 2 2672,.trim 1947111321950560360698936123492044],upT37,upH38,0⟩
def Lq2n_10 (xq3z:Tq3z) (xq1l:Tq1l) (xq0v:Tq0v) (xq2p:Tq2p) (K:uQ33→Bool→(List Eng.V)→Bool→Bool→(List Eng.V)→Bool→Bool→(List Eng.V)→Bool→Bool→Prop) (k136:uQ34→Prop) (k143:uQ34→Prop):(uQ35→Prop)→uQ35→Prop:=fun k168 x169 =>
 (if decide (x169.1.2.2.2.2.2.2.2.2.2.2.2.1 < x169.1.2.2.2.2.2.2.2.2.2.2.1) then
 (if 0≤x169.1.2.2.2.2.2.2.2.2.2.2.2.1∧x169.1.2.2.2.2.2.2.2.2.2.2.2.1 < (↑(List.length x169.2.2.2.2.2.2.2.1.1):Int) then
 (Eng.asInt IntKind.i64 (Eng.getC x169.2.2.2.2.2.2.2.1.1 (Int.toNat x169.1.2.2.2.2.2.2.2.2.2.2.2.1) (0:Nat)) False fun n170 =>
 xq3z x169.1.2.2.2.2.2.2.2.2.2.1 n170 (fun r171 r172 =>
 (if 0≤x169.1.2.2.2.2.2.2.2.2.2.2.2.1∧x169.1.2.2.2.2.2.2.2.2.2.2.2.1 < (↑(List.length x169.2.2.2.2.2.2.1.1):Int) then
 (if x169.2.2.2.2.2.2.1.2.2=false then
 (if Int.toNat x169.1.2.2.2.2.2.2.2.2.2.2.2.1 < List.length x169.2.2.2.2.2.2.1.1 then
 (if x169.1.2.2.2.2.2.2.2.2.1 then
 k168 ((x169.1.1,(),(),x169.1.2.2.2.1,(),(),(),(),r172,x169.1.2.2.2.2.2.2.2.2.2.1,x169.1.2.2.2.2.2.2.2.2.2.2.1,w64 (x169.1.2.2.2.2.2.2.2.2.2.2.2.1+1),()),x169.2.1,((),(),(),x169.2.2.1.2.2.2),((),(),(),x169.2.2.2.1.2.2.2),((),x169.2.2.2.2.1.2),x169.2.2.2.2.2.1,(List.set x169.2.2.2.2.2.2.1.1 (Int.toNat x169.1.2.2.2.2.2.2.2.2.2.2.2.1) (Eng.setE (List.getD x169.2.2.2.2.2.2.1.1 (Int.toNat x169.1.2.2.2.2.2.2.2.2.2.2.2.1) Eng.V.bad) (2:Nat) [Eng.V.c (Value.string r171)]),x169.2.2.2.2.2.2.1.2),x169.2.2.2.2.2.2.2)
 else
 k168 ((x169.1.1,(),(),x169.1.2.2.2.1,(),(),(),(),false,x169.1.2.2.2.2.2.2.2.2.2.1,x169.1.2.2.2.2.2.2.2.2.2.2.1,w64 (x169.1.2.2.2.2.2.2.2.2.2.2.2.1+1),()),x169.2.1,((),(),(),x169.2.2.1.2.2.2),((),(),(),x169.2.2.2.1.2.2.2),((),x169.2.2.2.2.1.2),x169.2.2.2.2.2.1,(List.set x169.2.2.2.2.2.2.1.1 (Int.toNat x169.1.2.2.2.2.2.2.2.2.2.2.2.1) (Eng.setE (List.getD x169.2.2.2.2.2.2.1.1 (Int.toNat x169.1.2.2.2.2.2.2.2.2.2.2.2.1) Eng.V.bad) (2:Nat) [Eng.V.c (Value.string r171)]),x169.2.2.2.2.2.2.1.2),x169.2.2.2.2.2.2.2))
 else
 False)
 else
 False)
 else
 False)))
 else
 False)
 else
 lp (Lq2n_11 xq1l xq0v xq2p K k136 k143 k168) ((x169.1.1,(),(),x169.1.2.2.2.1,(),(),x169.1.2.2.2.2.2.2.2.2.1,x169.2.1.2.2.2.1,0,()),x169.2.1,([],[],[],x169.2.2.1.2.2.2),((),(),(),x169.2.2.2.1.2.2.2),((),x169.2.2.2.2.1.2),x169.2.2.2.2.2.1,x169.2.2.2.2.2.2.1,x169.2.2.2.2.2.2.2.2.1,[],()))
def Lq2n_10p:Lp:=⟨58028439341502200386021068,[.trim 58028439341502200386021068],upT39,upH40,0⟩
def Lq2n_9 (xq1l:Tq1l) (xq2g:Tq2g) (xq0v:Tq0v) (xq3z:Tq3z) (xq2p:Tq2p) (K:uQ33→Bool→(List Eng.V)→Bool→Bool→(List Eng.V)→Bool→Bool→(List Eng.V)→Bool→Bool→Prop) (k136:uQ34→Prop):(uQ34→Prop)→uQ34→Prop:=fun k143 x144 =>
 (if decide (x144.1.2.2.2.2.2.2.2.1 < x144.1.2.2.2.2.2.2.1) then
 xq1l 1 x144.2.2.2.2.1.2.1 x144.2.2.2.2.2.1.1 x144.2.2.2.2.2.1.2.1 x144.2.2.2.2.2.1.2.2 (fun r145 r146 r147 r148 r149 =>
 (if 0≤x144.1.2.2.2.2.2.2.2.1∧x144.1.2.2.2.2.2.2.2.1 < (↑(List.length x144.2.2.2.2.2.2.1):Int) then
 (if Int.toNat x144.1.2.2.2.2.2.2.2.1 < List.length x144.2.2.2.2.2.2.1 then
 k143 ((x144.1.1,(),(),x144.1.2.2.2.1,(),(),x144.1.2.2.2.2.2.2.1,w64 (x144.1.2.2.2.2.2.2.2.1+1),()),x144.2.1,((),(),(),x144.2.2.1.2.2.2),((),(),(),x144.2.2.2.1.2.2.2),((),r146,()),(r147,r148,r149),List.set x144.2.2.2.2.2.2.1 (Int.toNat x144.1.2.2.2.2.2.2.2.1) (Eng.setE (List.getD x144.2.2.2.2.2.2.1 (Int.toNat x144.1.2.2.2.2.2.2.2.1) Eng.V.bad) (1:Nat) [Eng.V.c (Value.int IntKind.i64 r145)]),())
 else
 False)
 else
 False))
 else
 xq2g x144.2.1.2.2.2.2.2.1 x144.2.2.2.2.1.2.1 x144.2.2.2.2.2.1.1 x144.2.2.2.2.2.1.2.1 x144.2.2.2.2.2.1.2.2 (fun r150 r151 r152 r153 r154 r155 r156 r157 r158 r159 r160 =>
 xq0v x144.2.1.2.2.2.2.2.2.1 r151 r158 r159 r160 (fun r161 r162 r163 r164 r165 r166 r167 =>
 (if Eng.allU8 r162 then
 lp (Lq2n_10 xq3z xq1l xq0v xq2p K k136 k143) ((x144.1.1,(),(),x144.1.2.2.2.1,(),(),(),(),r150,Eng.packB r162,(↑(List.length r152):Int),0,()),x144.2.1,((),(),(),x144.2.2.1.2.2.2),((),(),(),x144.2.2.2.1.2.2.2),((),r161,()),x144.2.2.2.2.2.2.1,(r152,r153,r154),(r155,r156,r157),(r165,r166,r167),())
 else
 False))))
def Lq2n_9p:Lp:=⟨864691128455136972,[.trim 864691128455136972,.trim 864691128455136972,.trim 864691128455136972,.ren 1120 609,.trim 864691128455136972],upT41,upH42,0⟩
def Lq2n_8 (xq1l:Tq1l) (xq2g:Tq2g) (xq0v:Tq0v) (xq3z:Tq3z) (xq2p:Tq2p) (K:uQ33→Bool→(List Eng.V)→Bool→Bool→(List Eng.V)→Bool→Bool→(List Eng.V)→Bool→Bool→Prop):(uQ34→Prop)→uQ34→Prop:=fun k136 x137 =>
 (if decide (x137.1.2.2.2.2.2.2.2.1 < x137.1.2.2.2.2.2.2.1) then
 xq1l x137.1.1 x137.2.2.2.2.1.2.1 x137.2.2.2.2.2.1.1 x137.2.2.2.2.2.1.2.1 x137.2.2.2.2.2.1.2.2 (fun r138 r139 r140 r141 r142 =>
 (if 0≤x137.1.2.2.2.2.2.2.2.1∧x137.1.2.2.2.2.2.2.2.1 < (↑(List.length x137.2.2.2.2.2.2.1):Int) then
 (if Int.toNat x137.1.2.2.2.2.2.2.2.1 < List.length x137.2.2.2.2.2.2.1 then
 k136 ((x137.1.1,(),(),x137.1.2.2.2.1,(),(),x137.1.2.2.2.2.2.2.1,w64 (x137.1.2.2.2.2.2.2.2.1+1),()),x137.2.1,((),(),(),x137.2.2.1.2.2.2),((),(),(),x137.2.2.2.1.2.2.2),((),r139,()),(r140,r141,r142),List.set x137.2.2.2.2.2.2.1 (Int.toNat x137.1.2.2.2.2.2.2.2.1) (Eng.setE (List.getD x137.2.2.2.2.2.2.1 (Int.toNat x137.1.2.2.2.2.2.2.2.1) Eng.V.bad) (0:Nat) [Eng.V.c (Value.int IntKind.i64 r138)]),())
 else
 False)
 else
 False))
 else
 lp (Lq2n_9 xq1l xq2g xq0v xq3z xq2p K k136) ((x137.1.1,(),(),x137.1.2.2.2.1,(),(),(↑(List.length x137.2.2.2.2.2.2.1):Int),0,()),x137.2.1,((),(),(),x137.2.2.1.2.2.2),((),(),(),x137.2.2.2.1.2.2.2),((),x137.2.2.2.2.1.2),x137.2.2.2.2.2))
def Lq2n_8p:Lp:=⟨26388279068364,[.trim 26388279068364,.trim 26388279068364,.trim 26388279068364,.ren 896 609,.trim 26388279068364],upT43,upH42,0⟩
def Yq2n (xq3v:Tq3v) (xq3a:Tq3a) (xq0v:Tq0v) (xq3z:Tq3z) (xq1l:Tq1l) (xq2p:Tq2p) (xq2g:Tq2g) (a0:uQ0) (a1:(List Eng.V)) (a2:Int) (K:uQ33→Bool→(List Eng.V)→Bool→Bool→(List Eng.V)→Bool→Bool→(List Eng.V)→Bool→Bool→Prop):Prop :=
 xq3v a0 a2 (fun r3 =>
 (if (r3 == 0) then
 K ((),(),(),ByteArray.mk #[],0,()) false [] true true [] true true [] true true
 else
 (if ((↑(List.length a1):Int) != r3) then
 K ((),(),(),ByteArray.mk #[],0,()) false [] true true [] true true [] true true
 else
 xq3a a1 (fun r4 r5 r6 r7 =>
 (
 (if 0≤a0.2.2.2.2.1∧a0.2.2.2.2.1≤a0.2.2.2.2.1∧a0.2.2.2.2.1≤4294967296 then
 (
 lp (Lq2n_8 xq1l xq2g xq0v xq3z xq2p K) ((a2,(),(),false,(),(),(↑(List.length (List.replicate (Int.toNat a0.2.2.2.2.1) (Eng.ofVal (Value.agg #[Value.int IntKind.i64 0,Value.int IntKind.i64 0])))):Int),0,()),a0,((),(),(),ByteArray.mk #[],0,()),((),(),(),ByteArray.mk #[],a0.1,()),((),r4,()),(r5,r6,r7),List.replicate (Int.toNat a0.2.2.2.2.1) (Eng.ofVal (Value.agg #[Value.int IntKind.i64 0,Value.int IntKind.i64 0])),())
 ∧
 lp (Lq2n_8 xq1l xq2g xq0v xq3z xq2p K) ((a2,(),(),false,(),(),(↑(List.length (List.replicate (Int.toNat a0.2.2.2.2.1) (Eng.ofVal (Value.agg #[Value.int IntKind.i64 0,Value.int IntKind.i64 0])))):Int),0,()),a0,((),(),(),ByteArray.mk #[],0,()),((),(),(),ByteArray.mk #[],a0.1,()),((),r4,()),(r5,r6,r7),List.replicate (Int.toNat a0.2.2.2.2.1) (Eng.ofVal (Value.agg #[Value.int IntKind.i64 0,Value.int IntKind.i64 0])),()))
 else
 False)
 ∧
 (if 0≤a0.2.2.2.2.1∧a0.2.2.2.2.1≤a0.2.2.2.2.1∧a0.2.2.2.2.1≤4294967296 then
 lp (Lq2n_8 xq1l xq2g xq0v xq3z xq2p K) ((a2,(),(),false,(),(),(↑(List.length (List.replicate (Int.toNat a0.2.2.2.2.1) (Eng.ofVal (Value.agg #[Value.int IntKind.i64 0,Value.int IntKind.i64 0])))):Int),0,()),a0,((),(),(),ByteArray.mk #[],0,()),((),(),(),ByteArray.mk #[],a0.1,()),((),r4,()),(r5,r6,r7),List.replicate (Int.toNat a0.2.2.2.2.1) (Eng.ofVal (Value.agg #[Value.int IntKind.i64 0,Value.int IntKind.i64 0])),())
 else
 False))))))
def Xq2n:Tq2n:=Yq2n Xq3v Xq3a Xq0v Xq3z Xq1l Xq2p Xq2g
def Jq2n (X:Tq2n):Inst:=mkI 22 upL44 .nil upL45 upH46 X
def Iq2n:Inst:=Jq2n Xq2n
theorem Eq2n (xq3v:Tq3v) (xq3a:Tq3a) (xq0v:Tq0v) (xq3z:Tq3z) (xq1l:Tq1l) (xq2p:Tq2p) (xq2g:Tq2g):EqF Tryz.prog 143 gives Tryz.f22 [Jq3v xq3v,Jq3a xq3a,Jq0v xq0v,Jq3z xq3z,Jq1l xq1l,Jq2p xq2p,Jq2g xq2g] [Lq2n_8p,Lq2n_9p,Lq2n_10p,Lq2n_11p] (Jq2n (Yq2n xq3v xq3a xq0v xq3z xq1l xq2p xq2g)):=fun x y K=>by kernel_rfl
theorem Iq2n_ok:InstOk Tryz.prog G.1 Iq2n:=iok (gives:=gives) [Lq2n_8p,Lq2n_9p,Lq2n_10p,Lq2n_11p] (okCons Iq3v_ok (okCons Iq3a_ok (okCons Iq0v_ok (okCons Iq3z_ok (okCons Iq1l_ok (okCons Iq2p_ok (okCons Iq2g_ok okNil))))))) 143 follows Tryz.func22 (by kernel_rfl) (fun x=>by kernel_rfl) (Eq2n Xq3v Xq3a Xq0v Xq3z Xq1l Xq2p Xq2g)
abbrev Tq3s:Type:=(List Eng.V)→Int→Int→(Bool→(List Eng.V)→Bool→Bool→Prop)→Prop
def Lq3s_0 (K:Bool→(List Eng.V)→Bool→Bool→Prop):(uQ47→Prop)→uQ47→Prop:=fun k7 x8 =>
 (if decide (x8.1.2.2.2.2.1 > 0) then
 (lt (w64 (8 * w64 (x8.1.2.2.2.2.1 - 1))) fun v9 =>
 (if v9 < 0 then
 False
 else
 (if x8.2.1.2.1 then
 (if Eng.roomOk (List.length x8.2.1.1+List.length [Eng.V.c (Value.int IntKind.u8 (wu8 (Int.fdiv x8.1.1 (2 ^ Min.min (Int.toNat v9) (64:Nat)))))]) (1:Nat) then
 k7 ((x8.1.1,(),x8.1.2.2.1,(),w64 (x8.1.2.2.2.2.1 - 1),()),(x8.2.1.1++[Eng.V.c (Value.int IntKind.u8 (wu8 (Int.fdiv x8.1.1 (2 ^ Min.min (Int.toNat v9) (64:Nat)))))],x8.2.1.2),())
 else
 False)
 else
 False)))
 else
 K true x8.2.1.1 x8.2.1.2.1 x8.2.1.2.2)
def Lq3s_0p:Lp:=⟨962,[.trim 962],upT48,upH49,0⟩
def Yq3s (xq0b:Tq0b) (xq3i:Tq3i) (a0:(List Eng.V)) (a1:Int) (a2:Int) (K:Bool→(List Eng.V)→Bool→Bool→Prop):Prop :=
 xq0b a0 (fun r3 r4 r5 =>
 xq3i a1 a2 (fun r6 =>
 (if (!r6) then
 K false r3 r4 r5
 else
 lp (Lq3s_0 K) ((a1,(),false,(),a2,()),(r3,r4,r5),()))))
def Xq3s:Tq3s:=Yq3s Xq0b Xq3i
def Jq3s (X:Tq3s):Inst:=mkI 98 upL50 .nil upL51 upH5 X
def Iq3s:Inst:=Jq3s Xq3s
theorem Eq3s (xq0b:Tq0b) (xq3i:Tq3i):EqF Tryz.prog 32 gives Tryz.f98 [Jq0b xq0b,Jq3i xq3i] [Lq3s_0p] (Jq3s (Yq3s xq0b xq3i)):=fun x y K=>by kernel_rfl
theorem Iq3s_ok:InstOk Tryz.prog G.1 Iq3s:=iok (gives:=gives) [Lq3s_0p] (okCons Iq0b_ok (okCons Iq3i_ok okNil)) 32 follows Tryz.func98 (by kernel_rfl) (fun x=>by kernel_rfl) (Eq3s Xq0b Xq3i)
abbrev Tq32:Type:=uQ0→(Bool→(List Eng.V)→Bool→Bool→Prop)→Prop
def Lq32_0 (xq3s:Tq3s) (K:Bool→(List Eng.V)→Bool→Bool→Prop):(uQ52→Prop)→uQ52→Prop:=fun k2 x3 =>
 (if decide (x3.1.2.2.2.2.1 < 6) then
 (if 0≤x3.1.2.2.2.2.1∧x3.1.2.2.2.2.1 < 6 then
 (Eng.asInt IntKind.i64 ([Eng.V.c (Value.int IntKind.i64 x3.1.2.2.2.1.1),Eng.V.c (Value.int IntKind.i64 x3.1.2.2.2.1.2.1),Eng.V.c (Value.int IntKind.i64 x3.1.2.2.2.1.2.2.1),Eng.V.c (Value.int IntKind.i64 x3.1.2.2.2.1.2.2.2.1),Eng.V.c (Value.int IntKind.i64 x3.1.2.2.2.1.2.2.2.2.1),Eng.V.c (Value.int IntKind.i64 x3.1.2.2.2.1.2.2.2.2.2.1)][Int.toNat x3.1.2.2.2.2.1 * (1:Nat)]?) False fun n4 =>
 xq3s x3.2.1.1 n4 4 (fun r5 r6 r7 r8 =>
 k2 (((),x3.1.2.1,(),x3.1.2.2.2.1,w64 (x3.1.2.2.2.2.1+1),()),(r6,r7,r8),())))
 else
 False)
 else
 K true x3.2.1.1 x3.2.1.2.1 x3.2.1.2.2)
def Lq32_0p:Lp:=⟨51539607580,[.trim 51539607580,.ren 720 224],upT53,upH54,0⟩
def Yq32 (xq36:Tq36) (xq3s:Tq3s) (a0:uQ0) (K:Bool→(List Eng.V)→Bool→Bool→Prop):Prop :=
 xq36 a0 (fun r1 =>
 (if (!r1) then
 K false [] true true
 else
 (if decide (a0.1 > 1) then
 lp (Lq32_0 xq3s K) (((),false,(),a0.2,0,()),([Eng.V.c (Value.int IntKind.u8 84),Eng.V.c (Value.int IntKind.u8 90),Eng.V.c (Value.int IntKind.u8 105),Eng.V.c (Value.int IntKind.u8 102),Eng.V.c (Value.int IntKind.u8 (wu8 (48+wu8 a0.1))),Eng.V.c (Value.int IntKind.u8 0),Eng.V.c (Value.int IntKind.u8 0),Eng.V.c (Value.int IntKind.u8 0),Eng.V.c (Value.int IntKind.u8 0),Eng.V.c (Value.int IntKind.u8 0),Eng.V.c (Value.int IntKind.u8 0),Eng.V.c (Value.int IntKind.u8 0),Eng.V.c (Value.int IntKind.u8 0),Eng.V.c (Value.int IntKind.u8 0),Eng.V.c (Value.int IntKind.u8 0),Eng.V.c (Value.int IntKind.u8 0),Eng.V.c (Value.int IntKind.u8 0),Eng.V.c (Value.int IntKind.u8 0),Eng.V.c (Value.int IntKind.u8 0),Eng.V.c (Value.int IntKind.u8 0)],true,false),())
 else
 lp (Lq32_0 xq3s K) (((),false,(),a0.2,0,()),([Eng.V.c (Value.int IntKind.u8 84),Eng.V.c (Value.int IntKind.u8 90),Eng.V.c (Value.int IntKind.u8 105),Eng.V.c (Value.int IntKind.u8 102),Eng.V.c (Value.int IntKind.u8 0),Eng.V.c (Value.int IntKind.u8 0),Eng.V.c (Value.int IntKind.u8 0),Eng.V.c (Value.int IntKind.u8 0),Eng.V.c (Value.int IntKind.u8 0),Eng.V.c (Value.int IntKind.u8 0),Eng.V.c (Value.int IntKind.u8 0),Eng.V.c (Value.int IntKind.u8 0),Eng.V.c (Value.int IntKind.u8 0),Eng.V.c (Value.int IntKind.u8 0),Eng.V.c (Value.int IntKind.u8 0),Eng.V.c (Value.int IntKind.u8 0),Eng.V.c (Value.int IntKind.u8 0),Eng.V.c (Value.int IntKind.u8 0),Eng.V.c (Value.int IntKind.u8 0),Eng.V.c (Value.int IntKind.u8 0)],true,false),()))))
def Xq32:Tq32:=Yq32 Xq36 Xq3s
def Jq32 (X:Tq32):Inst:=mkI 38 upL55 .nil upL51 upH5 X
def Iq32:Inst:=Jq32 Xq32
theorem Eq32 (xq36:Tq36) (xq3s:Tq3s):EqF Tryz.prog 46 gives Tryz.f38 [Jq36 xq36,Jq3s xq3s] [Lq32_0p] (Jq32 (Yq32 xq36 xq3s)):=fun x y K=>by kernel_rfl
theorem Iq32_ok:InstOk Tryz.prog G.1 Iq32:=iok (gives:=gives) [Lq32_0p] (okCons Iq36_ok (okCons Iq3s_ok okNil)) 46 follows Tryz.func38 (by kernel_rfl) (fun x=>by kernel_rfl) (Eq32 Xq36 Xq3s)
abbrev Tq0q:Type:=Int→Int→Bool→(List Eng.V)→Bool→Bool→(Bool→(List Eng.V)→Bool→Bool→Prop)→Prop
def Yq0q (xq3s:Tq3s) (a0:Int) (a1:Int) (a2:Bool) (a3:(List Eng.V)) (a4:Bool) (a5:Bool) (K:Bool→(List Eng.V)→Bool→Bool→Prop):Prop :=
 xq3s [] a0 a1 (fun r6 r7 r8 r9 =>
 (if a4 then
 (if Eng.roomOk (List.length a3+List.length r7) (1:Nat) then
 (if a2 then
 K true (a3++r7) a4 a5
 else
 K (!r6) (a3++r7) a4 a5)
 else
 False)
 else
 False))
def Xq0q:Tq0q:=Yq0q Xq3s
def Jq0q (X:Tq0q):Inst:=mkI 60 upL56 upH7 .nil upH7 X
def Iq0q:Inst:=Jq0q Xq0q
theorem Eq0q (xq3s:Tq3s):EqF Tryz.prog 34 gives Tryz.f60 [Jq3s xq3s] [] (Jq0q (Yq0q xq3s)):=fun x y K=>by kernel_rfl
theorem Iq0q_ok:InstOk Tryz.prog G.1 Iq0q:=iok (gives:=gives) [] (okCons Iq3s_ok okNil) 34 follows Tryz.func60 (by kernel_rfl) (fun x=>by kernel_rfl) (Eq0q Xq3s)
abbrev Tq35:Type:=Bool→(Int→Prop)→Prop
def Yq35 (a0:Bool) (K:Int→Prop):Prop :=
 (if a0 then
 K 1
 else
 K 0)
def Xq35:Tq35:=Yq35
def Jq35 (X:Tq35):Inst:=mkI 61 upL9 .nil upL2 .nil X
def Iq35:Inst:=Jq35 Xq35
theorem Eq35:EqF Tryz.prog 4 gives Tryz.f61 [] [] (Jq35 (Yq35)):=fun x y K=>by kernel_rfl
theorem Iq35_ok:InstOk Tryz.prog G.1 Iq35:=iok (gives:=gives) [] okNil 4 follows Tryz.func61 (by kernel_rfl) (fun x=>by kernel_rfl) (Eq35)
abbrev Tq2l:Type:=uQ58→Int→(Bool→(List Eng.V)→Bool→Bool→Prop)→Prop
def Lq2l_3 (xq0q:Tq0q) (K:Bool→(List Eng.V)→Bool→Bool→Prop) (k9:uQ59→Prop) (k17:uQ59→Prop) (k25:uQ59→Prop):(uQ60→Prop)→uQ60→Prop:=fun k44 x45 =>
 (if decide (x45.1.2.2.2.2.2.2.1 < x45.1.2.2.2.2.2.1) then
 (if 0≤x45.1.2.2.2.2.2.2.1∧x45.1.2.2.2.2.2.2.1 < (↑(List.length x45.1.2.2.2.2.1):Int) then
 (Eng.asInt IntKind.i64 (Eng.getC x45.1.2.2.2.2.1 (Int.toNat x45.1.2.2.2.2.2.2.1) (0:Nat)) False fun n46 =>
 (Eng.asInt IntKind.i64 (Eng.getC x45.1.2.2.2.2.1 (Int.toNat x45.1.2.2.2.2.2.2.1) (1:Nat)) False fun n47 =>
 xq0q n46 x45.1.1 x45.2.1.2.1 x45.2.2.1.1 x45.2.2.1.2.1 x45.2.2.1.2.2 (fun r48 r49 r50 r51 =>
 xq0q n47 4 r48 r49 r50 r51 (fun r52 r53 r54 r55 =>
 k44 ((x45.1.1,(),x45.1.2.2.1,(),x45.1.2.2.2.2.1,x45.1.2.2.2.2.2.1,w64 (x45.1.2.2.2.2.2.2.1+1),()),((),r52,()),(r53,r54,r55),())))))
 else
 False)
 else
 (if x45.2.1.2.1 then
 K false [] true true
 else
 K true x45.2.2.1.1 x45.2.2.1.2.1 x45.2.2.1.2.2))
def Lq2l_3p:Lp:=⟨17331160549995323848587741234,[.trim 17331160549995323848587741234,.trim 17331160549995323848587741234,.trim 17331160549995323848587741234,.ren 1712 2128,.trim 17331160549995323848587741234],upT61,upH62,0⟩
def Lq2l_2 (xq0q:Tq0q) (xq35:Tq35) (K:Bool→(List Eng.V)→Bool→Bool→Prop) (k9:uQ59→Prop) (k17:uQ59→Prop):(uQ59→Prop)→uQ59→Prop:=fun k25 x26 =>
 (if decide (x26.1.2.2.2.2.2.2.2.2.2.1 < x26.1.2.2.2.2.2.2.2.2.1) then
 (if 0≤x26.1.2.2.2.2.2.2.2.2.2.1∧x26.1.2.2.2.2.2.2.2.2.2.1 < (↑(List.length x26.1.2.2.2.2.2.2.2.1):Int) then
 (Eng.asInt IntKind.i64 (Eng.getC x26.1.2.2.2.2.2.2.2.1 (Int.toNat x26.1.2.2.2.2.2.2.2.2.2.1) (0:Nat)) False fun n27 =>
 (Eng.asBool (Eng.getC x26.1.2.2.2.2.2.2.2.1 (Int.toNat x26.1.2.2.2.2.2.2.2.2.2.1) (1:Nat)) False fun b28 =>
 (Eng.asStr (Eng.getC x26.1.2.2.2.2.2.2.2.1 (Int.toNat x26.1.2.2.2.2.2.2.2.2.2.1) (2:Nat)) False fun t29 =>
 xq0q n27 4 x26.2.2.1.2.1 x26.2.2.2.2.1.1 x26.2.2.2.2.1.2.1 x26.2.2.2.2.1.2.2 (fun r30 r31 r32 r33 =>
 xq35 b28 (fun r34 =>
 xq0q r34 1 r30 r31 r32 r33 (fun r35 r36 r37 r38 =>
 (if 0≤x26.1.2.2.2.2.2.2.2.2.2.1∧x26.1.2.2.2.2.2.2.2.2.2.1 < (↑(List.length x26.2.2.2.1.1):Int) then
 (Eng.asInt IntKind.i64 (Eng.getC x26.2.2.2.1.1 (Int.toNat x26.1.2.2.2.2.2.2.2.2.2.1) (0:Nat)) False fun n39 =>
 xq0q n39 1 r35 r36 r37 r38 (fun r40 r41 r42 r43 =>
 k25 ((x26.1.1,(),(),x26.1.2.2.2.1,x26.1.2.2.2.2.1,(),(),x26.1.2.2.2.2.2.2.2.1,x26.1.2.2.2.2.2.2.2.2.1,w64 (x26.1.2.2.2.2.2.2.2.2.2.1+1),()),x26.2.1,((),r40,()),x26.2.2.2.1,(r41,r42,r43),())))
 else
 False)))))))
 else
 False)
 else
 (if x26.2.2.2.2.1.2.1 then
 (if Eng.roomOk (List.length x26.2.2.2.2.1.1+List.length (Eng.bytesV x26.1.2.2.2.2.1)) (1:Nat) then
 lp (Lq2l_3 xq0q K k9 k17 k25) ((x26.1.1,(),x26.1.2.2.2.1,(),x26.2.1.2.2.1,(↑(List.length x26.2.1.2.2.1):Int),0,()),((),x26.2.2.1.2),(x26.2.2.2.2.1.1++Eng.bytesV x26.1.2.2.2.2.1,x26.2.2.2.2.1.2),())
 else
 False)
 else
 False))
def Lq2l_2p:Lp:=⟨258254417031933725494,[.trim 258254417031933725494,.trim 258254417031933725494,.trim 258254417031933725494,.ren 1392 2128,.trim 258254417031933725494],upT63,upH64,0⟩
def Lq2l_1 (xq0q:Tq0q) (xq35:Tq35) (K:Bool→(List Eng.V)→Bool→Bool→Prop) (k9:uQ59→Prop):(uQ59→Prop)→uQ59→Prop:=fun k17 x18 =>
 (if decide (x18.1.2.2.2.2.2.2.2.2.2.1 < x18.1.2.2.2.2.2.2.2.2.1) then
 (if 0≤x18.1.2.2.2.2.2.2.2.2.2.1∧x18.1.2.2.2.2.2.2.2.2.2.1 < (↑(List.length x18.1.2.2.2.2.2.2.2.1):Int) then
 (Eng.asInt IntKind.i64 (Eng.getC x18.1.2.2.2.2.2.2.2.1 (Int.toNat x18.1.2.2.2.2.2.2.2.2.2.1) (0:Nat)) False fun n19 =>
 (Eng.asInt IntKind.i64 (Eng.getC x18.1.2.2.2.2.2.2.2.1 (Int.toNat x18.1.2.2.2.2.2.2.2.2.2.1) (1:Nat)) False fun n20 =>
 xq0q n20 1 x18.2.2.1.2.1 x18.2.2.2.2.1.1 x18.2.2.2.2.1.2.1 x18.2.2.2.2.1.2.2 (fun r21 r22 r23 r24 =>
 k17 ((x18.1.1,(),(),x18.1.2.2.2.1,x18.1.2.2.2.2.1,(),(),x18.1.2.2.2.2.2.2.2.1,x18.1.2.2.2.2.2.2.2.2.1,w64 (x18.1.2.2.2.2.2.2.2.2.2.1+1),()),x18.2.1,((),r21,()),x18.2.2.2.1,(r22,r23,r24),()))))
 else
 False)
 else
 lp (Lq2l_2 xq0q xq35 K k9 k17) ((x18.1.1,(),(),x18.1.2.2.2.1,x18.1.2.2.2.2.1,(),(),x18.2.1.1,(↑(List.length x18.2.1.1):Int),0,()),x18.2.1,((),x18.2.2.1.2),x18.2.2.2))
def Lq2l_1p:Lp:=⟨126100789566376758,[.trim 126100789566376758,.trim 126100789566376758,.trim 126100789566376758,.ren 1056 2128,.trim 126100789566376758],upT65,upH64,0⟩
def Lq2l_0 (xq0q:Tq0q) (xq35:Tq35) (K:Bool→(List Eng.V)→Bool→Bool→Prop):(uQ59→Prop)→uQ59→Prop:=fun k9 x10 =>
 (if decide (x10.1.2.2.2.2.2.2.2.2.2.1 < x10.1.2.2.2.2.2.2.2.2.1) then
 (if 0≤x10.1.2.2.2.2.2.2.2.2.2.1∧x10.1.2.2.2.2.2.2.2.2.2.1 < (↑(List.length x10.1.2.2.2.2.2.2.2.1):Int) then
 (Eng.asInt IntKind.i64 (Eng.getC x10.1.2.2.2.2.2.2.2.1 (Int.toNat x10.1.2.2.2.2.2.2.2.2.2.1) (0:Nat)) False fun n11 =>
 (Eng.asInt IntKind.i64 (Eng.getC x10.1.2.2.2.2.2.2.2.1 (Int.toNat x10.1.2.2.2.2.2.2.2.2.2.1) (1:Nat)) False fun n12 =>
 xq0q n11 x10.1.1 x10.2.2.1.2.1 x10.2.2.2.2.1.1 x10.2.2.2.2.1.2.1 x10.2.2.2.2.1.2.2 (fun r13 r14 r15 r16 =>
 k9 ((x10.1.1,(),(),x10.1.2.2.2.1,x10.1.2.2.2.2.1,(),(),x10.1.2.2.2.2.2.2.2.1,x10.1.2.2.2.2.2.2.2.2.1,w64 (x10.1.2.2.2.2.2.2.2.2.2.1+1),()),x10.2.1,((),r13,()),x10.2.2.2.1,(r14,r15,r16),()))))
 else
 False)
 else
 lp (Lq2l_1 xq0q xq35 K k9) ((x10.1.1,(),(),x10.1.2.2.2.1,x10.1.2.2.2.2.1,(),(),x10.2.1.2.1,(↑(List.length x10.2.1.2.1):Int),0,()),x10.2.1,((),x10.2.2.1.2),x10.2.2.2))
def Lq2l_0p:Lp:=⟨30786325580598,[.trim 30786325580598,.trim 30786325580598,.fatC 240 0 1 2128,.trim 30786325580598,.ren 880 2128],upT66,upH64,0⟩
def Yq2l (xq2x:Tq2x) (xq37:Tq37) (xq0q:Tq0q) (xq35:Tq35) (a0:uQ58) (a1:Int) (K:Bool→(List Eng.V)→Bool→Bool→Prop):Prop :=
 xq2x a0 (fun r2 r3 =>
 (if (!r3) then
 K false [] true true
 else
 (if (a1 != 4) then
 (if (a1 != 8) then
 K false [] true true
 else
 xq37 a0 (fun r4 r5 r6 r7 r8 =>
 lp (Lq2l_0 xq0q xq35 K) ((a1,(),(),false,r4,(),(),a0.2.1,(↑(List.length a0.2.1):Int),0,()),a0,((),false,()),(r6,r7,r8),([],true,false),())))
 else
 xq37 a0 (fun r56 r57 r58 r59 r60 =>
 lp (Lq2l_0 xq0q xq35 K) ((a1,(),(),false,r56,(),(),a0.2.1,(↑(List.length a0.2.1):Int),0,()),a0,((),false,()),(r58,r59,r60),([],true,false),())))))
def Xq2l:Tq2l:=Yq2l Xq2x Xq37 Xq0q Xq35
def Jq2l (X:Tq2l):Inst:=mkI 20 upL67 .nil upL51 upH5 X
def Iq2l:Inst:=Jq2l Xq2l
theorem Eq2l (xq2x:Tq2x) (xq37:Tq37) (xq0q:Tq0q) (xq35:Tq35):EqF Tryz.prog 109 gives Tryz.f20 [Jq2x xq2x,Jq37 xq37,Jq0q xq0q,Jq35 xq35] [Lq2l_0p,Lq2l_1p,Lq2l_2p,Lq2l_3p] (Jq2l (Yq2l xq2x xq37 xq0q xq35)):=fun x y K=>by kernel_rfl
theorem Iq2l_ok:InstOk Tryz.prog G.1 Iq2l:=iok (gives:=gives) [Lq2l_0p,Lq2l_1p,Lq2l_2p,Lq2l_3p] (okCons Iq2x_ok (okCons Iq37_ok (okCons Iq0q_ok (okCons Iq35_ok okNil)))) 109 follows Tryz.func20 (by kernel_rfl) (fun x=>by kernel_rfl) (Eq2l Xq2x Xq37 Xq0q Xq35)
abbrev Tq0d:Type:=Int→((List Eng.V)→Bool→Bool→Prop)→Prop
def Yq0d (a0:Int) (K:(List Eng.V)→Bool→Bool→Prop):Prop :=
 (if decide (a0 < 0) then
 False
 else
 (if decide (w64 (a0 - 0) > 0) then
 (if 0≤w64 (a0 - 0)∧w64 (a0 - 0)≤4398046511104 then
 (if Eng.roomOk ((0:Nat)+List.length (List.replicate (Int.toNat (w64 (a0 - 0))) (Eng.ofVal (Value.int IntKind.u8 0)))) (1:Nat) then
 K [] true false
 else
 False)
 else
 False)
 else
 K [] true true))
def Xq0d:Tq0d:=Yq0d
def Jq0d (X:Tq0d):Inst:=mkI 99 upL68 .nil upL4 upH5 X
def Iq0d:Inst:=Jq0d Xq0d
theorem Eq0d:EqF Tryz.prog 27 gives Tryz.f99 [] [] (Jq0d (Yq0d)):=fun x y K=>by kernel_rfl
theorem Iq0d_ok:InstOk Tryz.prog G.1 Iq0d:=iok (gives:=gives) [] okNil 27 follows Tryz.func99 (by kernel_rfl) (fun x=>by kernel_rfl) (Eq0d)
abbrev Tq09:Type:=(List Eng.V)→((List Eng.V)→Bool→Bool→Prop)→Prop
def Lq09_1 (K:(List Eng.V)→Bool→Bool→Prop) (k1:uQ69→Prop):(uQ70→Prop)→uQ70→Prop:=fun k8 x9 =>
 (if decide (x9.1.2.2.2.2.1 < x9.1.2.2.2.1) then
 (if 0≤x9.1.2.2.2.2.1∧x9.1.2.2.2.2.1 < (↑(List.length x9.1.2.2.1):Int) then
 (Eng.asSl (1:Nat) (Eng.getC x9.1.2.2.1 (Int.toNat x9.1.2.2.2.2.1) (0:Nat)) False fun l10 l11 =>
 (if x9.2.1.2.1 then
 (if Eng.roomOk (List.length x9.2.1.1+List.length l11) (1:Nat) then
 k8 (((),(),x9.1.2.2.1,x9.1.2.2.2.1,w64 (x9.1.2.2.2.2.1+1),()),(x9.2.1.1++l11,x9.2.1.2),())
 else
 False)
 else
 False))
 else
 False)
 else
 K x9.2.1.1 x9.2.1.2.1 x9.2.1.2.2)
def Lq09_1p:Lp:=⟨234881092,[.trim 234881092],upT71,upH72,0⟩
def Lq09_0 (xq0d:Tq0d) (K:(List Eng.V)→Bool→Bool→Prop):(uQ69→Prop)→uQ69→Prop:=fun k1 x2 =>
 (if decide (x2.1.2.2.2.2.2.1 < x2.1.2.2.2.2.1) then
 (if 0≤x2.1.2.2.2.2.2.1∧x2.1.2.2.2.2.2.1 < (↑(List.length x2.1.2.2.2.1):Int) then
 (Eng.asSl (1:Nat) (Eng.getC x2.1.2.2.2.1 (Int.toNat x2.1.2.2.2.2.2.1) (0:Nat)) False fun l3 l4 =>
 (if decide (w64 (x2.1.2.2.1+(↑(List.length l4):Int)) < 0) then
 False
 else
 k1 ((x2.1.1,(),w64 (x2.1.2.2.1+(↑(List.length l4):Int)),x2.1.2.2.2.1,x2.1.2.2.2.2.1,w64 (x2.1.2.2.2.2.2.1+1),()),())))
 else
 False)
 else
 xq0d x2.1.2.2.1 (fun r5 r6 r7 =>
 lp (Lq09_1 K k1) (((),(),x2.1.1,(↑(List.length x2.1.1):Int),0,()),(r5,r6,r7),())))
def Lq09_0p:Lp:=⟨3597,[.trim 3597],upT73,.nil,0⟩
def Yq09 (xq0d:Tq0d) (a0:(List Eng.V)) (K:(List Eng.V)→Bool→Bool→Prop):Prop :=
 lp (Lq09_0 xq0d K) ((a0,(),0,a0,(↑(List.length a0):Int),0,()),())
def Xq09:Tq09:=Yq09 Xq0d
def Jq09 (X:Tq09):Inst:=mkI 39 upL3 .nil upL4 upH5 X
def Iq09:Inst:=Jq09 Xq09
theorem Eq09 (xq0d:Tq0d):EqF Tryz.prog 36 gives Tryz.f39 [Jq0d xq0d] [Lq09_0p,Lq09_1p] (Jq09 (Yq09 xq0d)):=fun x y K=>by kernel_rfl
theorem Iq09_ok:InstOk Tryz.prog G.1 Iq09:=iok (gives:=gives) [Lq09_0p,Lq09_1p] (okCons Iq0d_ok okNil) 36 follows Tryz.func39 (by kernel_rfl) (fun x=>by kernel_rfl) (Eq09 Xq0d)
abbrev Tq3j:Type:=uQ58→Int→(Bool→(List Eng.V)→Bool→Bool→Prop)→Prop
def Yq3j (xq2x:Tq2x) (xq32:Tq32) (xq2l:Tq2l) (xq09:Tq09) (a0:uQ58) (a1:Int) (K:Bool→(List Eng.V)→Bool→Bool→Prop):Prop :=
 xq2x a0 (fun r2 r3 =>
 xq32 r2 (fun r4 r5 r6 r7 =>
 xq2l a0 a1 (fun r8 r9 r10 r11 =>
 xq09 ([Eng.V.sl (1:Nat) false r5,Eng.V.sl (1:Nat) false r9]) (fun r12 r13 r14 =>
 (if r4 then
 K r8 r12 r13 r14
 else
 K false r12 r13 r14)))))
def Xq3j:Tq3j:=Yq3j Xq2x Xq32 Xq2l Xq09
def Jq3j (X:Tq3j):Inst:=mkI 37 upL67 .nil upL51 upH5 X
def Iq3j:Inst:=Jq3j Xq3j
theorem Eq3j (xq2x:Tq2x) (xq32:Tq32) (xq2l:Tq2l) (xq09:Tq09):EqF Tryz.prog 36 gives Tryz.f37 [Jq2x xq2x,Jq32 xq32,Jq2l xq2l,Jq09 xq09] [] (Jq3j (Yq3j xq2x xq32 xq2l xq09)):=fun x y K=>by kernel_rfl
theorem Iq3j_ok:InstOk Tryz.prog G.1 Iq3j:=iok (gives:=gives) [] (okCons Iq2x_ok (okCons Iq32_ok (okCons Iq2l_ok (okCons Iq09_ok okNil)))) 36 follows Tryz.func37 (by kernel_rfl) (fun x=>by kernel_rfl) (Eq3j Xq2x Xq32 Xq2l Xq09)
abbrev Tq2u:Type:=uQ58→(Bool→(List Eng.V)→Bool→Bool→Prop)→Prop
def Yq2u (xq3j:Tq3j) (xq34:Tq34) (xq32:Tq32) (xq3v:Tq3v) (xq09:Tq09) (a0:uQ58) (K:Bool→(List Eng.V)→Bool→Bool→Prop):Prop :=
 (if (a0.2.2.2.2.1 == 1) then
 xq3j a0 4 (fun r1 r2 r3 r4 =>
 (if (!r1) then
 K false [] true true
 else
 xq34 a0 (fun r5 =>
 (if (!r5) then
 K false [] true true
 else
 (if (a0.2.2.2.2.1 == 1) then
 K true r2 r3 r4
 else
 xq32 (a0.2.2.2.2.1,0,0,0,0,1,1,()) (fun r6 r7 r8 r9 =>
 (if (↑((1:Nat)+ByteArray.size a0.2.2.2.1):Int) > 9223372036854775807 then
 False
 else
 (if (↑(ByteArray.size (ByteArray.mk #[(10:UInt8)]++a0.2.2.2.1)+(1:Nat)):Int) > 9223372036854775807 then
 False
 else
 (lt (ByteArray.mk #[(10:UInt8)]++a0.2.2.2.1++ByteArray.mk #[(10:UInt8)]) fun v10 =>
 (
 xq3v (a0.2.2.2.2.1,0,0,0,0,1,1,()) 4 (fun r11 =>
 (dup (
 (if 0≤r11∧r11≤r11∧r11≤4294967296 then
 xq09 ([Eng.V.sl (1:Nat) false r7,Eng.V.sl (1:Nat) false (List.replicate (Int.toNat r11) (Eng.ofVal (Value.int IntKind.u8 0))),Eng.V.sl (1:Nat) false r2,Eng.V.sl (1:Nat) false (Eng.bytesV v10)]) (fun r12 r13 r14 =>
 K true r12 r13 r14)
 else
 False))))
 ∧
 xq3v (a0.2.2.2.2.1,0,0,0,0,1,1,()) 4 (fun r18 =>
 (if 0≤r18∧r18≤r18∧r18≤4294967296 then
 xq09 ([Eng.V.sl (1:Nat) false r7,Eng.V.sl (1:Nat) false (List.replicate (Int.toNat r18) (Eng.ofVal (Value.int IntKind.u8 0))),Eng.V.sl (1:Nat) false r2,Eng.V.sl (1:Nat) false (Eng.bytesV v10)]) (fun r19 r20 r21 =>
 K true r19 r20 r21)
 else
 False))))))))))))
 else
 xq3j a0 8 (fun r22 r23 r24 r25 =>
 (if (!r22) then
 K false [] true true
 else
 xq34 a0 (fun r26 =>
 (if (!r26) then
 K false [] true true
 else
 (if (a0.2.2.2.2.1 == 1) then
 K true r23 r24 r25
 else
 xq32 (a0.2.2.2.2.1,0,0,0,0,1,1,()) (fun r27 r28 r29 r30 =>
 (if (↑((1:Nat)+ByteArray.size a0.2.2.2.1):Int) > 9223372036854775807 then
 False
 else
 (if (↑(ByteArray.size (ByteArray.mk #[(10:UInt8)]++a0.2.2.2.1)+(1:Nat)):Int) > 9223372036854775807 then
 False
 else
 (lt (ByteArray.mk #[(10:UInt8)]++a0.2.2.2.1++ByteArray.mk #[(10:UInt8)]) fun v31 =>
 (
 xq3v (a0.2.2.2.2.1,0,0,0,0,1,1,()) 4 (fun r32 =>
 (dup (
 (if 0≤r32∧r32≤r32∧r32≤4294967296 then
 xq09 ([Eng.V.sl (1:Nat) false r28,Eng.V.sl (1:Nat) false (List.replicate (Int.toNat r32) (Eng.ofVal (Value.int IntKind.u8 0))),Eng.V.sl (1:Nat) false r23,Eng.V.sl (1:Nat) false (Eng.bytesV v31)]) (fun r33 r34 r35 =>
 K true r33 r34 r35)
 else
 False))))
 ∧
 xq3v (a0.2.2.2.2.1,0,0,0,0,1,1,()) 4 (fun r39 =>
 (if 0≤r39∧r39≤r39∧r39≤4294967296 then
 xq09 ([Eng.V.sl (1:Nat) false r28,Eng.V.sl (1:Nat) false (List.replicate (Int.toNat r39) (Eng.ofVal (Value.int IntKind.u8 0))),Eng.V.sl (1:Nat) false r23,Eng.V.sl (1:Nat) false (Eng.bytesV v31)]) (fun r40 r41 r42 =>
 K true r40 r41 r42)
 else
 False)))))))))))))
def Xq2u:Tq2u:=Yq2u Xq3j Xq34 Xq32 Xq3v Xq09
def Jq2u (X:Tq2u):Inst:=mkI 11 upL74 .nil upL51 upH5 X
def Iq2u:Inst:=Jq2u Xq2u
theorem Eq2u (xq3j:Tq3j) (xq34:Tq34) (xq32:Tq32) (xq3v:Tq3v) (xq09:Tq09):EqF Tryz.prog 50 gives Tryz.f11 [Jq3j xq3j,Jq34 xq34,Jq32 xq32,Jq3v xq3v,Jq09 xq09] [] (Jq2u (Yq2u xq3j xq34 xq32 xq3v xq09)):=fun x y K=>by kernel_rfl
theorem Iq2u_ok:InstOk Tryz.prog G.1 Iq2u:=iok (gives:=gives) [] (okCons Iq3j_ok (okCons Iq34_ok (okCons Iq32_ok (okCons Iq3v_ok (okCons Iq09_ok okNil))))) 50 follows Tryz.func11 (by kernel_rfl) (fun x=>by kernel_rfl) (Eq2u Xq3j Xq34 Xq32 Xq3v Xq09)
abbrev Tq2o:Type:=Int→(Int→Prop)→Prop
def Yq2o (a0:Int) (K:Int→Prop):Prop :=
 (if (a0 == 0) then
 K 1
 else
 (if decide (a0≥50) then
 (if decide (a0≤52) then
 K (w64 (a0 - 48))
 else
 K 0)
 else
 K 0))
def Xq2o:Tq2o:=Yq2o
def Jq2o (X:Tq2o):Inst:=mkI 203 upL2 .nil upL2 .nil X
def Iq2o:Inst:=Jq2o Xq2o
theorem Eq2o:EqF Tryz.prog 15 gives Tryz.f203 [] [] (Jq2o (Yq2o)):=fun x y K=>by kernel_rfl
theorem Iq2o_ok:InstOk Tryz.prog G.1 Iq2o:=iok (gives:=gives) [] okNil 15 follows Tryz.func203 (by kernel_rfl) (fun x=>by kernel_rfl) (Eq2o)
abbrev Tq21:Type:=Bool→(List Eng.V)→Bool→Bool→(Bool→Bool→(List Eng.V)→Bool→Bool→Prop)→Prop
def Yq21 (a0:Bool) (a1:(List Eng.V)) (a2:Bool) (a3:Bool) (K:Bool→Bool→(List Eng.V)→Bool→Bool→Prop):Prop :=
 K (!a0) a0 a1 a2 a3
def Xq21:Tq21:=Yq21
def Jq21 (X:Tq21):Inst:=mkI 205 upL6 upH7 upL9 upH7 X
def Iq21:Inst:=Jq21 Xq21
theorem Eq21:EqF Tryz.prog 8 gives Tryz.f205 [] [] (Jq21 (Yq21)):=fun x y K=>by kernel_rfl
theorem Iq21_ok:InstOk Tryz.prog G.1 Iq21:=iok (gives:=gives) [] okNil 8 follows Tryz.func205 (by kernel_rfl) (fun x=>by kernel_rfl) (Eq21)
abbrev Tq2j:Type:=Int→(Bool→Prop)→Prop
def Yq2j (a0:Int) (K:Bool→Prop):Prop :=
 K (a0 != 0)
def Xq2j:Tq2j:=Yq2j
def Jq2j (X:Tq2j):Inst:=mkI 204 upL24 .nil upL9 .nil X
def Iq2j:Inst:=Jq2j Xq2j
theorem Eq2j:EqF Tryz.prog 5 gives Tryz.f204 [] [] (Jq2j (Yq2j)):=fun x y K=>by kernel_rfl
theorem Iq2j_ok:InstOk Tryz.prog G.1 Iq2j:=iok (gives:=gives) [] okNil 5 follows Tryz.func204 (by kernel_rfl) (fun x=>by kernel_rfl) (Eq2j)
abbrev Tq02:Type:=(List Eng.V)→(Int→Prop)→Prop
def Lq02_0 (xq2j:Tq2j) (K:Int→Prop):(uQ25→Prop)→uQ25→Prop:=fun k1 x2 =>
 (if decide (x2.1.2.2.2.2.1 < x2.1.2.2.2.1) then
 (if 0≤x2.1.2.2.2.2.1∧x2.1.2.2.2.2.1 < (↑(List.length x2.1.1):Int) then
 (Eng.asInt IntKind.u8 (Eng.getC x2.1.1 (Int.toNat x2.1.2.2.2.2.1) (0:Nat)) False fun n3 =>
 xq2j n3 (fun r4 =>
 (if r4 then
 K x2.1.2.2.2.2.1
 else
 k1 ((x2.1.1,((),()),x2.1.2.2.1,x2.1.2.2.2.1,w64 (x2.1.2.2.2.2.1+1),()),()))))
 else
 False)
 else
 K (-1))
def Lq02_0p:Lp:=⟨403,[.trim 403],upT75,.nil,0⟩
def Yq02 (xq2j:Tq2j) (a0:(List Eng.V)) (K:Int→Prop):Prop :=
 lp (Lq02_0 xq2j K) ((a0,((),()),0,(↑(List.length a0):Int),0,()),())
def Xq02:Tq02:=Yq02 Xq2j
def Jq02 (X:Tq02):Inst:=mkI 181 upL76 .nil upL2 .nil X
def Iq02:Inst:=Jq02 Xq02
theorem Eq02 (xq2j:Tq2j):EqF Tryz.prog 19 gives Tryz.f181 [Jq2j xq2j] [Lq02_0p] (Jq02 (Yq02 xq2j)):=fun x y K=>by kernel_rfl
theorem Iq02_ok:InstOk Tryz.prog G.1 Iq02:=iok (gives:=gives) [Lq02_0p] (okCons Iq2j_ok okNil) 19 follows Tryz.func181 (by kernel_rfl) (fun x=>by kernel_rfl) (Eq02 Xq2j)
abbrev Tq00:Type:=(List Eng.V)→(Bool→Prop)→Prop
def Yq00 (xq02:Tq02) (a0:(List Eng.V)) (K:Bool→Prop):Prop :=
 xq02 a0 (fun r1 =>
 K (decide (r1≥0)))
def Xq00:Tq00:=Yq00 Xq02
def Jq00 (X:Tq00):Inst:=mkI 129 upL76 .nil upL9 .nil X
def Iq00:Inst:=Jq00 Xq00
theorem Eq00 (xq02:Tq02):EqF Tryz.prog 9 gives Tryz.f129 [Jq02 xq02] [] (Jq00 (Yq00 xq02)):=fun x y K=>by kernel_rfl
theorem Iq00_ok:InstOk Tryz.prog G.1 Iq00:=iok (gives:=gives) [] (okCons Iq02_ok okNil) 9 follows Tryz.func129 (by kernel_rfl) (fun x=>by kernel_rfl) (Eq00 Xq02)
abbrev Tq2z:Type:=(List Eng.V)→(uQ0→Bool→Prop)→Prop
def Lq2z_0p:Lp:=⟨939524220,[.ren 624 1456],.nil,.nil,12⟩
def Yq2z (xq3a:Tq3a) (xq0v:Tq0v) (xq1l:Tq1l) (xq2o:Tq2o) (xq21:Tq21) (xq00:Tq00) (xq36:Tq36) (a0:(List Eng.V)) (K:uQ0→Bool→Prop):Prop :=
 xq3a a0 (fun r1 r2 r3 r4 =>
 xq0v 4 r1 r2 r3 r4 (fun r5 r6 r7 r8 r9 r10 r11 =>
 (if Eng.allU8 r6 then
 xq1l 1 r5 r9 r10 r11 (fun r12 r13 r14 r15 r16 =>
 xq2o r12 (fun r17 =>
 xq0v 15 r13 r14 r15 r16 (fun r18 r19 r20 r21 r22 r23 r24 =>
 xq1l 4 r18 r22 r23 r24 (fun r25 r26 r27 r28 r29 =>
 xq1l 4 r26 r27 r28 r29 (fun r30 r31 r32 r33 r34 =>
 xq1l 4 r31 r32 r33 r34 (fun r35 r36 r37 r38 r39 =>
 xq1l 4 r36 r37 r38 r39 (fun r40 r41 r42 r43 r44 =>
 xq1l 4 r41 r42 r43 r44 (fun r45 r46 r47 r48 r49 =>
 xq1l 4 r46 r47 r48 r49 (fun r50 r51 r52 r53 r54 =>
 xq21 r51 r52 r53 r54 (fun r55 r56 r57 r58 r59 =>
 (if (!r55) then
 K (0,0,0,0,0,0,0,()) false
 else
 (lt (!ByteArray.toList (Eng.packB r6) == ByteArray.toList (ByteArray.mk #[(84:UInt8),(90:UInt8),(105:UInt8),(102:UInt8)])) fun v60 =>
 (if v60 then
 K (0,0,0,0,0,0,0,()) false
 else
 xq00 r19 (fun r61 =>
 (if r61 then
 K (0,0,0,0,0,0,0,()) false
 else
 xq36 (r17,r25,r30,r35,r40,r45,r50,()) (fun r62 =>
 (if (!r62) then
 K (0,0,0,0,0,0,0,()) false
 else
 K (r17,r25,r30,r35,r40,r45,r50,()) true)))))))))))))))))
 else
 False)))
def Xq2z:Tq2z:=Yq2z Xq3a Xq0v Xq1l Xq2o Xq21 Xq00 Xq36
def Jq2z (X:Tq2z):Inst:=mkI 164 upL3 .nil upL77 .nil X
def Iq2z:Inst:=Jq2z Xq2z
theorem Eq2z (xq3a:Tq3a) (xq0v:Tq0v) (xq1l:Tq1l) (xq2o:Tq2o) (xq21:Tq21) (xq00:Tq00) (xq36:Tq36):EqF Tryz.prog 57 gives Tryz.f164 [Jq3a xq3a,Jq0v xq0v,Jq1l xq1l,Jq2o xq2o,Jq21 xq21,Jq00 xq00,Jq36 xq36] [Lq2z_0p] (Jq2z (Yq2z xq3a xq0v xq1l xq2o xq21 xq00 xq36)):=fun x y K=>by kernel_rfl
theorem Iq2z_ok:InstOk Tryz.prog G.1 Iq2z:=iok (gives:=gives) [Lq2z_0p] (okCons Iq3a_ok (okCons Iq0v_ok (okCons Iq1l_ok (okCons Iq2o_ok (okCons Iq21_ok (okCons Iq00_ok (okCons Iq36_ok okNil))))))) 57 follows Tryz.func164 (by kernel_rfl) (fun x=>by kernel_rfl) (Eq2z Xq3a Xq0v Xq1l Xq2o Xq21 Xq00 Xq36)
abbrev Tq3x:Type:=(List Eng.V)→Int→(uQ0→Bool→(List Eng.V)→Bool→Bool→(List Eng.V)→Bool→Bool→Prop)→Prop
def Yq3x (xq2z:Tq2z) (xq3v:Tq3v) (a0:(List Eng.V)) (a1:Int) (K:uQ0→Bool→(List Eng.V)→Bool→Bool→(List Eng.V)→Bool→Bool→Prop):Prop :=
 xq2z a0 (fun r2 r3 =>
 (if (!r3) then
 K r2 false [] true true [] true true
 else
 (if 0≤(↑(List.length a0):Int)∧(↑(List.length a0):Int)≤(↑(List.length a0):Int) then
 (if (0 :Int)≤44∧44≤(↑(List.length a0):Int) then
 (if (r2.1 == 1) then
 xq3v r2 4 (fun r4 =>
 (if decide (r4 > (↑(List.length (Eng.cutL a0 (44:Nat) (Int.toNat (↑(List.length a0):Int) - (44:Nat)))):Int)) then
 K r2 false [] true true [] true true
 else
 (if 0≤r4∧r4≤(↑(List.length (Eng.cutL a0 (44:Nat) (Int.toNat (↑(List.length a0):Int) - (44:Nat)))):Int) then
 (if (0 :Int)≤0∧0≤r4 then
 (if 0≤(↑(List.length (Eng.cutL a0 (44:Nat) (Int.toNat (↑(List.length a0):Int) - (44:Nat)))):Int)∧(↑(List.length (Eng.cutL a0 (44:Nat) (Int.toNat (↑(List.length a0):Int) - (44:Nat)))):Int)≤(↑(List.length (Eng.cutL a0 (44:Nat) (Int.toNat (↑(List.length a0):Int) - (44:Nat)))):Int) then
 (if 0≤r4∧r4≤(↑(List.length (Eng.cutL a0 (44:Nat) (Int.toNat (↑(List.length a0):Int) - (44:Nat)))):Int) then
 (lt (Eng.cutL (Eng.cutL a0 (44:Nat) (Int.toNat (↑(List.length a0):Int) - (44:Nat))) (Int.toNat r4) (Int.toNat (↑(List.length (Eng.cutL a0 (44:Nat) (Int.toNat (↑(List.length a0):Int) - (44:Nat)))):Int) - Int.toNat r4)) fun v5 =>
 K r2 true (Eng.cutL (Eng.cutL a0 (44:Nat) (Int.toNat (↑(List.length a0):Int) - (44:Nat))) (0:Nat) (Int.toNat r4 - (0:Nat))) false true v5 false true)
 else
 False)
 else
 False)
 else
 False)
 else
 False)))
 else
 xq3v r2 a1 (fun r6 =>
 (if decide (r6 > (↑(List.length (Eng.cutL a0 (44:Nat) (Int.toNat (↑(List.length a0):Int) - (44:Nat)))):Int)) then
 K r2 false [] true true [] true true
 else
 (if 0≤r6∧r6≤(↑(List.length (Eng.cutL a0 (44:Nat) (Int.toNat (↑(List.length a0):Int) - (44:Nat)))):Int) then
 (if (0 :Int)≤0∧0≤r6 then
 (if 0≤(↑(List.length (Eng.cutL a0 (44:Nat) (Int.toNat (↑(List.length a0):Int) - (44:Nat)))):Int)∧(↑(List.length (Eng.cutL a0 (44:Nat) (Int.toNat (↑(List.length a0):Int) - (44:Nat)))):Int)≤(↑(List.length (Eng.cutL a0 (44:Nat) (Int.toNat (↑(List.length a0):Int) - (44:Nat)))):Int) then
 (if 0≤r6∧r6≤(↑(List.length (Eng.cutL a0 (44:Nat) (Int.toNat (↑(List.length a0):Int) - (44:Nat)))):Int) then
 (lt (Eng.cutL (Eng.cutL a0 (44:Nat) (Int.toNat (↑(List.length a0):Int) - (44:Nat))) (Int.toNat r6) (Int.toNat (↑(List.length (Eng.cutL a0 (44:Nat) (Int.toNat (↑(List.length a0):Int) - (44:Nat)))):Int) - Int.toNat r6)) fun v7 =>
 K r2 true (Eng.cutL (Eng.cutL a0 (44:Nat) (Int.toNat (↑(List.length a0):Int) - (44:Nat))) (0:Nat) (Int.toNat r6 - (0:Nat))) false true v7 false true)
 else
 False)
 else
 False)
 else
 False)
 else
 False))))
 else
 False)
 else
 False)))
def Xq3x:Tq3x:=Yq3x Xq2z Xq3v
def Jq3x (X:Tq3x):Inst:=mkI 107 upL78 .nil upL79 upH80 X
def Iq3x:Inst:=Jq3x Xq3x
theorem Eq3x (xq2z:Tq2z) (xq3v:Tq3v):EqF Tryz.prog 37 gives Tryz.f107 [Jq2z xq2z,Jq3v xq3v] [] (Jq3x (Yq3x xq2z xq3v)):=fun x y K=>by kernel_rfl
theorem Iq3x_ok:InstOk Tryz.prog G.1 Iq3x:=iok (gives:=gives) [] (okCons Iq2z_ok (okCons Iq3v_ok okNil)) 37 follows Tryz.func107 (by kernel_rfl) (fun x=>by kernel_rfl) (Eq3x Xq2z Xq3v)
abbrev Tq06:Type:=ByteArray→ByteArray→(Bool→Prop)→Prop
def Yq06 (a0:ByteArray) (a1:ByteArray) (K:Bool→Prop):Prop :=
 (if decide ((↑(ByteArray.size a0):Int)≥(↑(ByteArray.size a1):Int)) then
 (if 0≤(↑(ByteArray.size a0):Int)∧(↑(ByteArray.size a0):Int)≤(↑(ByteArray.size a0):Int) then
 (if 0≤w64 ((↑(ByteArray.size a0):Int) - (↑(ByteArray.size a1):Int))∧w64 ((↑(ByteArray.size a0):Int) - (↑(ByteArray.size a1):Int))≤(↑(ByteArray.size a0):Int) then
 (lt (ByteArray.extract a0 (Int.toNat (w64 ((↑(ByteArray.size a0):Int) - (↑(ByteArray.size a1):Int)))) (Int.toNat (↑(ByteArray.size a0):Int))) fun v2 =>
 K (ByteArray.toList v2 == ByteArray.toList a1))
 else
 False)
 else
 False)
 else
 K false)
def Xq06:Tq06:=Yq06
def Jq06 (X:Tq06):Inst:=mkI 229 upL81 .nil upL9 .nil X
def Iq06:Inst:=Jq06 Xq06
theorem Eq06:EqF Tryz.prog 21 gives Tryz.f229 [] [] (Jq06 (Yq06)):=fun x y K=>by kernel_rfl
theorem Iq06_ok:InstOk Tryz.prog G.1 Iq06:=iok (gives:=gives) [] okNil 21 follows Tryz.func229 (by kernel_rfl) (fun x=>by kernel_rfl) (Eq06)
abbrev Tq07:Type:=ByteArray→ByteArray→(ByteArray→Bool→Prop)→Prop
def Yq07 (xq06:Tq06) (a0:ByteArray) (a1:ByteArray) (K:ByteArray→Bool→Prop):Prop :=
 xq06 a0 a1 (fun r2 =>
 (if (!r2) then
 K a0 false
 else
 (if 0≤w64 ((↑(ByteArray.size a0):Int) - (↑(ByteArray.size a1):Int))∧w64 ((↑(ByteArray.size a0):Int) - (↑(ByteArray.size a1):Int))≤(↑(ByteArray.size a0):Int) then
 (if (0 :Int)≤0∧0≤w64 ((↑(ByteArray.size a0):Int) - (↑(ByteArray.size a1):Int)) then
 (lt (ByteArray.extract a0 (0:Nat) (Int.toNat (w64 ((↑(ByteArray.size a0):Int) - (↑(ByteArray.size a1):Int))))) fun v3 =>
 K v3 true)
 else
 False)
 else
 False)))
def Xq07:Tq07:=Yq07 Xq06
def Jq07 (X:Tq07):Inst:=mkI 207 upL81 .nil upL23 .nil X
def Iq07:Inst:=Jq07 Xq07
theorem Eq07 (xq06:Tq06):EqF Tryz.prog 18 gives Tryz.f207 [Jq06 xq06] [] (Jq07 (Yq07 xq06)):=fun x y K=>by kernel_rfl
theorem Iq07_ok:InstOk Tryz.prog G.1 Iq07:=iok (gives:=gives) [] (okCons Iq06_ok okNil) 18 follows Tryz.func207 (by kernel_rfl) (fun x=>by kernel_rfl) (Eq07 Xq06)
abbrev Tq13:Type:=ByteArray→ByteArray→(ByteArray→Bool→Prop)→Prop
def Yq13 (xq07:Tq07) (a0:ByteArray) (a1:ByteArray) (K:ByteArray→Bool→Prop):Prop :=
 xq07 a0 a1 (fun r2 r3 =>
 K r2 r3)
def Xq13:Tq13:=Yq13 Xq07
def Jq13 (X:Tq13):Inst:=mkI 166 upL81 .nil upL23 .nil X
def Iq13:Inst:=Jq13 Xq13
theorem Eq13 (xq07:Tq07):EqF Tryz.prog 11 gives Tryz.f166 [Jq07 xq07] [] (Jq13 (Yq13 xq07)):=fun x y K=>by kernel_rfl
theorem Iq13_ok:InstOk Tryz.prog G.1 Iq13:=iok (gives:=gives) [] (okCons Iq07_ok okNil) 11 follows Tryz.func166 (by kernel_rfl) (fun x=>by kernel_rfl) (Eq13 Xq07)
abbrev Tq2i:Type:=ByteArray→ByteArray→(Int→Prop)→Prop
def Yq2i (xq0a:Tq0a) (a0:ByteArray) (a1:ByteArray) (K:Int→Prop):Prop :=
 xq0a a0 a1 (fun r2 =>
 K r2)
def Xq2i:Tq2i:=Yq2i Xq0a
def Jq2i (X:Tq2i):Inst:=mkI 208 upL81 .nil upL2 .nil X
def Iq2i:Inst:=Jq2i Xq2i
theorem Eq2i (xq0a:Tq0a):EqF Tryz.prog 8 gives Tryz.f208 [Jq0a xq0a] [] (Jq2i (Yq2i xq0a)):=fun x y K=>by kernel_rfl
theorem Iq2i_ok:InstOk Tryz.prog G.1 Iq2i:=iok (gives:=gives) [] (okCons Iq0a_ok okNil) 8 follows Tryz.func208 (by kernel_rfl) (fun x=>by kernel_rfl) (Eq2i Xq0a)
abbrev Tq1q:Type:=ByteArray→ByteArray→(Bool→Prop)→Prop
def Yq1q (xq2i:Tq2i) (a0:ByteArray) (a1:ByteArray) (K:Bool→Prop):Prop :=
 xq2i a0 a1 (fun r2 =>
 K (decide (r2≥0)))
def Xq1q:Tq1q:=Yq1q Xq2i
def Jq1q (X:Tq1q):Inst:=mkI 167 upL81 .nil upL9 .nil X
def Iq1q:Inst:=Jq1q Xq1q
theorem Eq1q (xq2i:Tq2i):EqF Tryz.prog 9 gives Tryz.f167 [Jq2i xq2i] [] (Jq1q (Yq1q xq2i)):=fun x y K=>by kernel_rfl
theorem Iq1q_ok:InstOk Tryz.prog G.1 Iq1q:=iok (gives:=gives) [] (okCons Iq2i_ok okNil) 9 follows Tryz.func167 (by kernel_rfl) (fun x=>by kernel_rfl) (Eq1q Xq2i)
abbrev Tq3l:Type:=(List Eng.V)→(ByteArray→Bool→Prop)→Prop
def Yq3l (xq0u:Tq0u) (xq13:Tq13) (xq1q:Tq1q) (a0:(List Eng.V)) (K:ByteArray→Bool→Prop):Prop :=
 (if Eng.allU8 a0 then
 xq0u (Eng.packB a0) (ByteArray.mk #[(10:UInt8)]) (fun r1 r2 =>
 xq13 r1 (ByteArray.mk #[(10:UInt8)]) (fun r3 r4 =>
 (if r2 then
 (if r4 then
 xq1q r3 (ByteArray.mk #[(10:UInt8)]) (fun r5 =>
 K r3 !r5)
 else
 K r3 false)
 else
 K r3 false)))
 else
 False)
def Xq3l:Tq3l:=Yq3l Xq0u Xq13 Xq1q
def Jq3l (X:Tq3l):Inst:=mkI 108 upL3 .nil upL23 .nil X
def Iq3l:Inst:=Jq3l Xq3l
theorem Eq3l (xq0u:Tq0u) (xq13:Tq13) (xq1q:Tq1q):EqF Tryz.prog 28 gives Tryz.f108 [Jq0u xq0u,Jq13 xq13,Jq1q xq1q] [] (Jq3l (Yq3l xq0u xq13 xq1q)):=fun x y K=>by kernel_rfl
theorem Iq3l_ok:InstOk Tryz.prog G.1 Iq3l:=iok (gives:=gives) [] (okCons Iq0u_ok (okCons Iq13_ok (okCons Iq1q_ok okNil))) 28 follows Tryz.func108 (by kernel_rfl) (fun x=>by kernel_rfl) (Eq3l Xq0u Xq13 Xq1q)
abbrev Tq3n:Type:=(List Eng.V)→(uQ33→Bool→(List Eng.V)→Bool→Bool→(List Eng.V)→Bool→Bool→(List Eng.V)→Bool→Bool→Prop)→Prop
def Yq3n (xq3x:Tq3x) (xq2n:Tq2n) (xq3l:Tq3l) (a0:(List Eng.V)) (K:uQ33→Bool→(List Eng.V)→Bool→Bool→(List Eng.V)→Bool→Bool→(List Eng.V)→Bool→Bool→Prop):Prop :=
 xq3x a0 4 (fun r1 r2 r3 r4 r5 r6 r7 r8 =>
 (if (!r2) then
 K ((),(),(),ByteArray.mk #[],0,()) false [] true true [] true true [] true true
 else
 (if (r1.1 == 1) then
 xq2n r1 r3 4 (fun r9 r10 r11 r12 r13 r14 r15 r16 r17 r18 r19 =>
 (if r10 then
 K ((),(),(),r9.2.2.2) ((↑(List.length r6):Int) == 0) r11 r12 r13 r14 r15 r16 r17 r18 r19
 else
 K ((),(),(),r9.2.2.2) false r11 r12 r13 r14 r15 r16 r17 r18 r19))
 else
 xq3x r6 8 (fun r20 r21 r22 r23 r24 r25 r26 r27 =>
 (if (!r21) then
 K ((),(),(),ByteArray.mk #[],0,()) false [] true true [] true true [] true true
 else
 (if (r20.1 != r1.1) then
 K ((),(),(),ByteArray.mk #[],0,()) false [] true true [] true true [] true true
 else
 xq2n r20 r22 8 (fun r28 r29 r30 r31 r32 r33 r34 r35 r36 r37 r38 =>
 xq3l r25 (fun r39 r40 =>
 (if r29 then
 K ((),(),(),r39,r28.2.2.2.2) r40 r30 r31 r32 r33 r34 r35 r36 r37 r38
 else
 K ((),(),(),r39,r28.2.2.2.2) false r30 r31 r32 r33 r34 r35 r36 r37 r38)))))))))
def Xq3n:Tq3n:=Yq3n Xq3x Xq2n Xq3l
def Jq3n (X:Tq3n):Inst:=mkI 45 upL3 .nil upL45 upH46 X
def Iq3n:Inst:=Jq3n Xq3n
theorem Eq3n (xq3x:Tq3x) (xq2n:Tq2n) (xq3l:Tq3l):EqF Tryz.prog 73 gives Tryz.f45 [Jq3x xq3x,Jq2n xq2n,Jq3l xq3l] [] (Jq3n (Yq3n xq3x xq2n xq3l)):=fun x y K=>by kernel_rfl
theorem Iq3n_ok:InstOk Tryz.prog G.1 Iq3n:=iok (gives:=gives) [] (okCons Iq3x_ok (okCons Iq2n_ok (okCons Iq3l_ok okNil))) 73 follows Tryz.func45 (by kernel_rfl) (fun x=>by kernel_rfl) (Eq3n Xq3x Xq2n Xq3l)
abbrev Tq33:Type:=(List Eng.V)→(uQ33→Int→(List Eng.V)→Bool→Bool→(List Eng.V)→Bool→Bool→(List Eng.V)→Bool→Bool→Prop)→Prop
def Yq33 (xq3n:Tq3n) (xq34:Tq34) (a0:(List Eng.V)) (K:uQ33→Int→(List Eng.V)→Bool→Bool→(List Eng.V)→Bool→Bool→(List Eng.V)→Bool→Bool→Prop):Prop :=
 xq3n a0 (fun r1 r2 r3 r4 r5 r6 r7 r8 r9 r10 r11 =>
 (if (!r2) then
 K ((),(),(),ByteArray.mk #[],0,()) 2 [] true true [] true true [] true true
 else
 xq34 (r3,r6,r9,r1.2.2.2) (fun r12 =>
 (if (!r12) then
 K ((),(),(),ByteArray.mk #[],0,()) 9 [] true true [] true true [] true true
 else
 K ((),(),(),r1.2.2.2) 0 r3 r4 r5 r6 r7 r8 r9 r10 r11))))
def Xq33:Tq33:=Yq33 Xq3n Xq34
def Jq33 (X:Tq33):Inst:=mkI 13 upL3 .nil upL82 upH46 X
def Iq33:Inst:=Jq33 Xq33
theorem Eq33 (xq3n:Tq3n) (xq34:Tq34):EqF Tryz.prog 21 gives Tryz.f13 [Jq3n xq3n,Jq34 xq34] [] (Jq33 (Yq33 xq3n xq34)):=fun x y K=>by kernel_rfl
theorem Iq33_ok:InstOk Tryz.prog G.1 Iq33:=iok (gives:=gives) [] (okCons Iq3n_ok (okCons Iq34_ok okNil)) 21 follows Tryz.func13 (by kernel_rfl) (fun x=>by kernel_rfl) (Eq33 Xq3n Xq34)
abbrev Tq3f:Type:=(List Eng.V)→(Bool→Prop)→Prop
def Yq3f (xq33:Tq33) (a0:(List Eng.V)) (K:Bool→Prop):Prop :=
 xq33 a0 (fun r1 r2 r3 r4 r5 r6 r7 r8 r9 r10 r11 =>
 (if ((!r5 || List.isEmpty r3) && Eng.plainL r3) then
 (if ((!r8 || List.isEmpty r6) && Eng.plainL r6) then
 (if ((!r11 || List.isEmpty r9) && Eng.plainL r9) then
 K (r2 == 0)
 else
 False)
 else
 False)
 else
 False))
def Xq3f:Tq3f:=Yq3f Xq33
def Jq3f (X:Tq3f):Inst:=mkI 16 upL3 .nil upL9 .nil X
def Iq3f:Inst:=Jq3f Xq3f
theorem Eq3f (xq33:Tq33):EqF Tryz.prog 12 gives Tryz.f16 [Jq33 xq33] [] (Jq3f (Yq3f xq33)):=fun x y K=>by kernel_rfl
theorem Iq3f_ok:InstOk Tryz.prog G.1 Iq3f:=iok (gives:=gives) [] (okCons Iq33_ok okNil) 12 follows Tryz.func16 (by kernel_rfl) (fun x=>by kernel_rfl) (Eq3f Xq33)
abbrev Tq1z:Type:=(List Eng.V)→(List Eng.V)→(Bool→Prop)→Prop
def Lq1z_0 (K:Bool→Prop):(uQ83→Prop)→uQ83→Prop:=fun k2 x3 =>
 (if decide (x3.1.2.2.2.1 < (↑(List.length x3.1.1):Int)) then
 (if 0≤x3.1.2.2.2.1∧x3.1.2.2.2.1 < (↑(List.length x3.1.1):Int) then
 (Eng.asInt IntKind.i64 (Eng.getC x3.1.1 (Int.toNat x3.1.2.2.2.1) (0:Nat)) False fun n4 =>
 (Eng.asInt IntKind.i64 (Eng.getC x3.1.1 (Int.toNat x3.1.2.2.2.1) (1:Nat)) False fun n5 =>
 (if 0≤x3.1.2.2.2.1∧x3.1.2.2.2.1 < (↑(List.length x3.1.2.1):Int) then
 (Eng.asInt IntKind.i64 (Eng.getC x3.1.2.1 (Int.toNat x3.1.2.2.2.1) (0:Nat)) False fun n6 =>
 (Eng.asInt IntKind.i64 (Eng.getC x3.1.2.1 (Int.toNat x3.1.2.2.2.1) (1:Nat)) False fun n7 =>
 (if (!(n4 == n6 && (n5 == n7 && true))) then
 K false
 else
 k2 ((x3.1.1,x3.1.2.1,x3.1.2.2.1,w64 (x3.1.2.2.2.1+1),()),()))))
 else
 False)))
 else
 False)
 else
 K true)
def Lq1z_0p:Lp:=⟨51,[.trim 51],upT84,.nil,0⟩
def Yq1z (a0:(List Eng.V)) (a1:(List Eng.V)) (K:Bool→Prop):Prop :=
 (if ((↑(List.length a0):Int) != (↑(List.length a1):Int)) then
 K false
 else
 lp (Lq1z_0 K) ((a0,a1,false,0,()),()))
def Xq1z:Tq1z:=Yq1z
def Jq1z (X:Tq1z):Inst:=mkI 47 upL85 .nil upL9 .nil X
def Iq1z:Inst:=Jq1z Xq1z
theorem Eq1z:EqF Tryz.prog 26 gives Tryz.f47 [] [Lq1z_0p] (Jq1z (Yq1z)):=fun x y K=>by kernel_rfl
theorem Iq1z_ok:InstOk Tryz.prog G.1 Iq1z:=iok (gives:=gives) [Lq1z_0p] okNil 26 follows Tryz.func47 (by kernel_rfl) (fun x=>by kernel_rfl) (Eq1z)
abbrev Tq22:Type:=uQ58→uQ58→(Bool→Prop)→Prop
def Lq22_1 (xq1z:Tq1z) (K:Bool→Prop) (k2:uQ86→Prop):(uQ86→Prop)→uQ86→Prop:=fun k11 x12 =>
 (if decide (x12.1.2.2.2.1 < (↑(List.length x12.2.1.2.1):Int)) then
 (if 0≤x12.1.2.2.2.1∧x12.1.2.2.2.1 < (↑(List.length x12.2.1.2.1):Int) then
 (Eng.asInt IntKind.i64 (Eng.getC x12.2.1.2.1 (Int.toNat x12.1.2.2.2.1) (0:Nat)) False fun n13 =>
 (Eng.asInt IntKind.i64 (Eng.getC x12.2.1.2.1 (Int.toNat x12.1.2.2.2.1) (1:Nat)) False fun n14 =>
 (if 0≤x12.1.2.2.2.1∧x12.1.2.2.2.1 < (↑(List.length x12.2.2.1.2.1):Int) then
 (Eng.asInt IntKind.i64 (Eng.getC x12.2.2.1.2.1 (Int.toNat x12.1.2.2.2.1) (0:Nat)) False fun n15 =>
 (Eng.asInt IntKind.i64 (Eng.getC x12.2.2.1.2.1 (Int.toNat x12.1.2.2.2.1) (1:Nat)) False fun n16 =>
 (if (!(n13 == n15 && (n14 == n16 && true))) then
 K false
 else
 k11 (((),(),x12.1.2.2.1,w64 (x12.1.2.2.2.1+1),()),x12.2))))
 else
 False)))
 else
 False)
 else
 xq1z x12.2.1.2.2.1 x12.2.2.1.2.2.1 (fun r17 =>
 K r17))
def Lq22_1p:Lp:=⟨92,[.trim 92],upT87,upH88,0⟩
def Lq22_0 (xq1z:Tq1z) (K:Bool→Prop):(uQ86→Prop)→uQ86→Prop:=fun k2 x3 =>
 (if decide (x3.1.2.2.2.1 < (↑(List.length x3.2.1.1):Int)) then
 (if 0≤x3.1.2.2.2.1∧x3.1.2.2.2.1 < (↑(List.length x3.2.1.1):Int) then
 (Eng.asInt IntKind.i64 (Eng.getC x3.2.1.1 (Int.toNat x3.1.2.2.2.1) (0:Nat)) False fun n4 =>
 (Eng.asBool (Eng.getC x3.2.1.1 (Int.toNat x3.1.2.2.2.1) (1:Nat)) False fun b5 =>
 (Eng.asStr (Eng.getC x3.2.1.1 (Int.toNat x3.1.2.2.2.1) (2:Nat)) False fun t6 =>
 (if 0≤x3.1.2.2.2.1∧x3.1.2.2.2.1 < (↑(List.length x3.2.2.1.1):Int) then
 (Eng.asInt IntKind.i64 (Eng.getC x3.2.2.1.1 (Int.toNat x3.1.2.2.2.1) (0:Nat)) False fun n7 =>
 (Eng.asBool (Eng.getC x3.2.2.1.1 (Int.toNat x3.1.2.2.2.1) (1:Nat)) False fun b8 =>
 (Eng.asStr (Eng.getC x3.2.2.1.1 (Int.toNat x3.1.2.2.2.1) (2:Nat)) False fun t9 =>
 (lt (!(n4 == n7 && (b5 == b8 && (ByteArray.toList t6 == ByteArray.toList t9 && true)))) fun v10 =>
 (if v10 then
 K false
 else
 k2 (((),(),x3.1.2.2.1,w64 (x3.1.2.2.2.1+1),()),x3.2))))))
 else
 False))))
 else
 False)
 else
 lp (Lq22_1 xq1z K k2) (((),(),x3.1.2.2.1,0,()),x3.2))
def Lq22_0p:Lp:=⟨60,[.trim 60],upT89,upH88,0⟩
def Yq22 (xq1z:Tq1z) (a0:uQ58) (a1:uQ58) (K:Bool→Prop):Prop :=
 (if ((↑(List.length a0.1):Int) != (↑(List.length a1.1):Int)) then
 K false
 else
 (if ((↑(List.length a0.2.1):Int) != (↑(List.length a1.2.1):Int)) then
 K false
 else
 (if (!ByteArray.toList a0.2.2.2.1 == ByteArray.toList a1.2.2.2.1) then
 K false
 else
 (if (a0.2.2.2.2.1 != a1.2.2.2.2.1) then
 K false
 else
 lp (Lq22_0 xq1z K) (((),(),false,0,()),a0,a1,())))))
def Xq22:Tq22:=Yq22 Xq1z
def Jq22 (X:Tq22):Inst:=mkI 15 upL90 .nil upL9 .nil X
def Iq22:Inst:=Jq22 Xq22
theorem Eq22 (xq1z:Tq1z):EqF Tryz.prog 78 gives Tryz.f15 [Jq1z xq1z] [Lq22_0p,Lq22_1p] (Jq22 (Yq22 xq1z)):=fun x y K=>by kernel_rfl
theorem Iq22_ok:InstOk Tryz.prog G.1 Iq22:=iok (gives:=gives) [Lq22_0p,Lq22_1p] (okCons Iq1z_ok okNil) 78 follows Tryz.func15 (by kernel_rfl) (fun x=>by kernel_rfl) (Eq22 Xq1z)
abbrev Tq1o:Type:=(Bool→Prop)→Prop
def Yq1o (xq2u:Tq2u) (xq33:Tq33) (xq22:Tq22) (xq3f:Tq3f) (K:Bool→Prop):Prop :=
 xq2u ([Eng.V.agg [Eng.V.c (Value.int IntKind.i64 0),Eng.V.c (Value.bool false),Eng.V.c (Value.string (ByteArray.mk #[(85:UInt8),(84:UInt8),(67:UInt8)]))]],[],[],ByteArray.mk #[(85:UInt8),(84:UInt8),(67:UInt8),(48:UInt8)],2,()) (fun r0 r1 r2 r3 =>
 xq33 r1 (fun r4 r5 r6 r7 r8 r9 r10 r11 r12 r13 r14 =>
 (if ((!r8 || List.isEmpty r6) && Eng.plainL r6) then
 (if ((!r11 || List.isEmpty r9) && Eng.plainL r9) then
 (if ((!r14 || List.isEmpty r12) && Eng.plainL r12) then
 (if r2 then
 (if Eng.roomOk (List.length r1+(1:Nat)) (1:Nat) then
 (
 xq33 (r1++[Eng.V.c (Value.int IntKind.u8 10)]) (fun r15 r16 r17 r18 r19 r20 r21 r22 r23 r24 r25 =>
 (if ((!r19 || List.isEmpty r17) && Eng.plainL r17) then
 (if ((!r22 || List.isEmpty r20) && Eng.plainL r20) then
 (if ((!r25 || List.isEmpty r23) && Eng.plainL r23) then
 xq33 [] (fun r26 r27 r28 r29 r30 r31 r32 r33 r34 r35 r36 =>
 (if ((!r30 || List.isEmpty r28) && Eng.plainL r28) then
 (if ((!r33 || List.isEmpty r31) && Eng.plainL r31) then
 (if ((!r36 || List.isEmpty r34) && Eng.plainL r34) then
 xq2u ([Eng.V.agg [Eng.V.c (Value.int IntKind.i64 0),Eng.V.c (Value.bool false),Eng.V.c (Value.string (ByteArray.mk #[(85:UInt8),(84:UInt8),(67:UInt8)]))]],[],[],ByteArray.mk #[],1,()) (fun r37 r38 r39 r40 =>
 xq33 r38 (fun r41 r42 r43 r44 r45 r46 r47 r48 r49 r50 r51 =>
 (if ((!r45 || List.isEmpty r43) && Eng.plainL r43) then
 (if ((!r48 || List.isEmpty r46) && Eng.plainL r46) then
 (if ((!r51 || List.isEmpty r49) && Eng.plainL r49) then
 xq2u ([],[],[],ByteArray.mk #[],0,()) (fun r52 r53 r54 r55 =>
 xq2u ([Eng.V.agg [Eng.V.c (Value.int IntKind.i64 0),Eng.V.c (Value.bool false),Eng.V.c (Value.string (ByteArray.mk #[(85:UInt8),(84:UInt8),(67:UInt8)]))]],[],[],ByteArray.mk #[(88:UInt8)],2,()) (fun r56 r57 r58 r59 =>
 (if ((↑(List.length r1):Int) != 111) then
 K false
 else
 (if ((↑(List.length r38):Int) != 54) then
 K false
 else
 (if (0 :Int)≤107∧107 < (↑(List.length r1):Int) then
 (if r3=false then
 (if (107:Nat) < List.length (r1++[Eng.V.c (Value.int IntKind.u8 10)]) then
 (lt (List.set (r1++[Eng.V.c (Value.int IntKind.u8 10)]) (107:Nat) (Eng.setE (List.getD (r1++[Eng.V.c (Value.int IntKind.u8 10)]) (107:Nat) Eng.V.bad) (0:Nat) [Eng.V.c (Value.int IntKind.u8 33)])) fun v60 =>
 xq33 (Eng.cutL v60 (0:Nat) (List.length r1)) (fun r61 r62 r63 r64 r65 r66 r67 r68 r69 r70 r71 =>
 (if ((!r65 || List.isEmpty r63) && Eng.plainL r63) then
 (if ((!r68 || List.isEmpty r66) && Eng.plainL r66) then
 (if ((!r71 || List.isEmpty r69) && Eng.plainL r69) then
 (if r0 then
 (if (r5 == 0) then
 xq22 (r6,r9,r12,r4.2.2.2) ([Eng.V.agg [Eng.V.c (Value.int IntKind.i64 0),Eng.V.c (Value.bool false),Eng.V.c (Value.string (ByteArray.mk #[(85:UInt8),(84:UInt8),(67:UInt8)]))]],[],[],ByteArray.mk #[(85:UInt8),(84:UInt8),(67:UInt8),(48:UInt8)],2,()) (fun r72 =>
 (if r72 then
 (if (r16 == 2) then
 (if (r27 == 2) then
 (if r37 then
 (if (r42 == 0) then
 xq22 (r43,r46,r49,r41.2.2.2) ([Eng.V.agg [Eng.V.c (Value.int IntKind.i64 0),Eng.V.c (Value.bool false),Eng.V.c (Value.string (ByteArray.mk #[(85:UInt8),(84:UInt8),(67:UInt8)]))]],[],[],ByteArray.mk #[],1,()) (fun r73 =>
 (if r73 then
 (if (!r52) then
 (if (!r56) then
 (if (r62 == 9) then
 xq3f (Eng.cutL v60 (0:Nat) (List.length r1)) (fun r74 =>
 (if (!r74) then
 xq3f r38 (fun r75 =>
 K r75)
 else
 K false))
 else
 K false)
 else
 K false)
 else
 K false)
 else
 K false))
 else
 K false)
 else
 K false)
 else
 K false)
 else
 K false)
 else
 K false))
 else
 K false)
 else
 K false)
 else
 False)
 else
 False)
 else
 False)))
 else
 False)
 else
 False)
 else
 False)))))
 else
 False)
 else
 False)
 else
 False)))
 else
 False)
 else
 False)
 else
 False))
 else
 False)
 else
 False)
 else
 False))
 ∧
 xq33 (r1++[Eng.V.c (Value.int IntKind.u8 10)]) (fun r76 r77 r78 r79 r80 r81 r82 r83 r84 r85 r86 =>
 (if ((!r80 || List.isEmpty r78) && Eng.plainL r78) then
 (if ((!r83 || List.isEmpty r81) && Eng.plainL r81) then
 (if ((!r86 || List.isEmpty r84) && Eng.plainL r84) then
 xq33 [] (fun r87 r88 r89 r90 r91 r92 r93 r94 r95 r96 r97 =>
 (if ((!r91 || List.isEmpty r89) && Eng.plainL r89) then
 (if ((!r94 || List.isEmpty r92) && Eng.plainL r92) then
 (if ((!r97 || List.isEmpty r95) && Eng.plainL r95) then
 xq2u ([Eng.V.agg [Eng.V.c (Value.int IntKind.i64 0),Eng.V.c (Value.bool false),Eng.V.c (Value.string (ByteArray.mk #[(85:UInt8),(84:UInt8),(67:UInt8)]))]],[],[],ByteArray.mk #[],1,()) (fun r98 r99 r100 r101 =>
 xq33 r99 (fun r102 r103 r104 r105 r106 r107 r108 r109 r110 r111 r112 =>
 (if ((!r106 || List.isEmpty r104) && Eng.plainL r104) then
 (if ((!r109 || List.isEmpty r107) && Eng.plainL r107) then
 (if ((!r112 || List.isEmpty r110) && Eng.plainL r110) then
 xq2u ([],[],[],ByteArray.mk #[],0,()) (fun r113 r114 r115 r116 =>
 xq2u ([Eng.V.agg [Eng.V.c (Value.int IntKind.i64 0),Eng.V.c (Value.bool false),Eng.V.c (Value.string (ByteArray.mk #[(85:UInt8),(84:UInt8),(67:UInt8)]))]],[],[],ByteArray.mk #[(88:UInt8)],2,()) (fun r117 r118 r119 r120 =>
 (if ((↑(List.length r1):Int) != 111) then
 K false
 else
 (if ((↑(List.length r99):Int) != 54) then
 K false
 else
 (if (0 :Int)≤107∧107 < (↑(List.length r1):Int) then
 (if r3=false then
 (if (107:Nat) < List.length r1 then
 xq33 (List.set r1 (107:Nat) (Eng.setE (List.getD r1 (107:Nat) Eng.V.bad) (0:Nat) [Eng.V.c (Value.int IntKind.u8 33)])) (fun r121 r122 r123 r124 r125 r126 r127 r128 r129 r130 r131 =>
 (if ((!r125 || List.isEmpty r123) && Eng.plainL r123) then
 (if ((!r128 || List.isEmpty r126) && Eng.plainL r126) then
 (if ((!r131 || List.isEmpty r129) && Eng.plainL r129) then
 (if r0 then
 (if (r5 == 0) then
 xq22 (r6,r9,r12,r4.2.2.2) ([Eng.V.agg [Eng.V.c (Value.int IntKind.i64 0),Eng.V.c (Value.bool false),Eng.V.c (Value.string (ByteArray.mk #[(85:UInt8),(84:UInt8),(67:UInt8)]))]],[],[],ByteArray.mk #[(85:UInt8),(84:UInt8),(67:UInt8),(48:UInt8)],2,()) (fun r132 =>
 (if r132 then
 (if (r77 == 2) then
 (if (r88 == 2) then
 (if r98 then
 (if (r103 == 0) then
 xq22 (r104,r107,r110,r102.2.2.2) ([Eng.V.agg [Eng.V.c (Value.int IntKind.i64 0),Eng.V.c (Value.bool false),Eng.V.c (Value.string (ByteArray.mk #[(85:UInt8),(84:UInt8),(67:UInt8)]))]],[],[],ByteArray.mk #[],1,()) (fun r133 =>
 (if r133 then
 (if (!r113) then
 (if (!r117) then
 (if (r122 == 9) then
 xq3f (List.set r1 (107:Nat) (Eng.setE (List.getD r1 (107:Nat) Eng.V.bad) (0:Nat) [Eng.V.c (Value.int IntKind.u8 33)])) (fun r134 =>
 (if (!r134) then
 xq3f r99 (fun r135 =>
 K r135)
 else
 K false))
 else
 K false)
 else
 K false)
 else
 K false)
 else
 K false))
 else
 K false)
 else
 K false)
 else
 K false)
 else
 K false)
 else
 K false))
 else
 K false)
 else
 K false)
 else
 False)
 else
 False)
 else
 False))
 else
 False)
 else
 False)
 else
 False)))))
 else
 False)
 else
 False)
 else
 False)))
 else
 False)
 else
 False)
 else
 False))
 else
 False)
 else
 False)
 else
 False)))
 else
 False)
 else
 False)
 else
 False)
 else
 False)
 else
 False)))
def Xq1o:Tq1o:=Yq1o Xq2u Xq33 Xq22 Xq3f
def Jq1o (X:Tq1o):Inst:=mkI 9 .nil .nil upL9 .nil X
def Iq1o:Inst:=Jq1o Xq1o
theorem Eq1o (xq2u:Tq2u) (xq33:Tq33) (xq22:Tq22) (xq3f:Tq3f):EqF Tryz.prog 137 gives Tryz.f9 [Jq2u xq2u,Jq33 xq33,Jq22 xq22,Jq3f xq3f] [] (Jq1o (Yq1o xq2u xq33 xq22 xq3f)):=fun x y K=>by kernel_rfl
theorem Iq1o_ok:InstOk Tryz.prog G.1 Iq1o:=iok (gives:=gives) [] (okCons Iq2u_ok (okCons Iq33_ok (okCons Iq22_ok (okCons Iq3f_ok okNil)))) 137 follows Tryz.func9 (by kernel_rfl) (fun x=>by kernel_rfl) (Eq1o Xq2u Xq33 Xq22 Xq3f)
end Go.Proofs.YtbnpclndiichcaaGreatDoor
end
