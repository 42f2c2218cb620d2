/- What the functions come to in plain data, with proofs, and what that answers. -/
import Derived.Test.YtbnpclndiichcaaGreatDoorGLocalTells3
import Derived.Shelf.Small.Wraps
import Derived.Shelf.Strconv.Atoi
import Derived.Shelf.Strconv.Itoa0
import Derived.Shelf.Strconv.Itoa1
import Derived.Shelf.LaysM
import Derived.Shelf.Strconv.Itoa2
import Derived.Shelf.Strconv.Itoa3
import Derived.Shelf.Strconv.AtoiErrFast
import Derived.Shelf.Strconv.ParseIntEmpty
import Derived.Shelf.Strconv.AtoiFail
import Derived.Shelf.Strconv.Clone
import Derived.Shelf.Strconv.SyntaxError
import Derived.Shelf.LaysC
import Derived.Shelf.Strconv.ToError
import Derived.Shelf.Strconv.Lower
import Derived.Shelf.Strconv.ParseUint10
import Derived.Shelf.Strconv.ParseUint10Empty
import Derived.Shelf.Strconv.ParseUint10Any
import Derived.Shelf.Strconv.ParseInt10
import Derived.Shelf.Strconv.AtoiLong
import Derived.Shelf.Strconv.AtoiInnerAll
import Derived.Shelf.Strconv.RangeError
import Derived.Shelf.Strconv.ToErrorRange
import Derived.Shelf.Strconv.AtoiAll
import Derived.Shelf.Strconv.ErrVarAll
import Derived.Shelf.Strings.Search1
import Derived.Shelf.Strings.Search2
import Derived.Shelf.Strings.Search3
import Derived.Shelf.Strings.Cut
import Derived.Shelf.Strings.Shaped
import Derived.Shelf.Strings.Prefix
import Derived.Test.YtbnpclndiichcaaGreatDoorProg
import Derived.Lib.AppendIntMem
import Derived.Lib.ItoaMem
import Derived.Lib.ItoaNum
import Derived.Lib.AtoiErrMem
import Derived.Lib.LaidTab
section
set_option linter.unusedVariables false
set_option linter.unusedSimpArgs false
namespace Go.Proofs
open Go.Shelf
def Tryz.lays172_ren:Go.Shelf.Ren:=⟨fun | 172=>234 | 244=>252 | 245=>253 | 247=>264 | 279=>265 | 280=>266 | 281=>267 | 282=>268 | 287=>274 | 316=>275 | 171=>147 | 205=>276 | 321=>277 | 322=>278 | 243=>188 | 246=>218 | 283=>242 | 284=>243 | 285=>244 | 286=>245 | 129=>259 | 317=>258 | 318=>260 | 319=>261 | 320=>262 | 337=>272 | 338=>273 | n=>n,fun | 9=>9 | 3=>3 | 75=>217 | 76=>218 | 4=>4 | 5=>5 | 167=>236 | 37=>27 | 0=>0 | 85=>237 | 2=>2 | 168=>239 | 53=>203 | 175=>244 | 46=>150 | 210=>248 | 127=>253 | 145=>256 | 143=>254 | 21=>21 | 171=>221 | 173=>224 | 212=>233 | 51=>204 | 20=>20 | 213=>234 | 232=>250 | 233=>251 | 80=>257 | n=>n,fun | 15=>2 | 16=>3 | 17=>1 | 18=>4 | 19=>5 | n=>n⟩
theorem Tryz.lays172:Go.Proofs.Lays.n172 Tryz.prog Tryz.lays172_ren:={
 mixed:=by kernel_rfl
 f129:=Tryz.func259.trans (congrArg some (by kernel_rfl))
 f171:=Tryz.func147.trans (congrArg some (by kernel_rfl))
 f172:=Tryz.func234.trans (congrArg some (by kernel_rfl))
 f205:=Tryz.func276.trans (congrArg some (by kernel_rfl))
 f243:=Tryz.func188.trans (congrArg some (by kernel_rfl))
 f244:=Tryz.func252.trans (congrArg some (by kernel_rfl))
 f245:=Tryz.func253.trans (congrArg some (by kernel_rfl))
 f246:=Tryz.func218.trans (congrArg some (by kernel_rfl))
 f247:=Tryz.func264.trans (congrArg some (by kernel_rfl))
 f279:=Tryz.func265.trans (congrArg some (by kernel_rfl))
 f280:=Tryz.func266.trans (congrArg some (by kernel_rfl))
 f281:=Tryz.func267.trans (congrArg some (by kernel_rfl))
 f282:=Tryz.func268.trans (congrArg some (by kernel_rfl))
 f283:=Tryz.func242.trans (congrArg some (by kernel_rfl))
 f284:=Tryz.func243.trans (congrArg some (by kernel_rfl))
 f285:=Tryz.func244.trans (congrArg some (by kernel_rfl))
 f286:=Tryz.func245.trans (congrArg some (by kernel_rfl))
 f287:=Tryz.func274.trans (congrArg some (by kernel_rfl))
 f316:=Tryz.func275.trans (congrArg some (by kernel_rfl))
 f317:=Tryz.func258.trans (congrArg some (by kernel_rfl))
 f318:=Tryz.func260.trans (congrArg some (by kernel_rfl))
 f319:=Tryz.func261.trans (congrArg some (by kernel_rfl))
 f320:=Tryz.func262.trans (congrArg some (by kernel_rfl))
 f321:=Tryz.func277.trans (congrArg some (by kernel_rfl))
 f322:=Tryz.func278.trans (congrArg some (by kernel_rfl))
 f337:=Tryz.func272.trans (congrArg some (by kernel_rfl))
 f338:=Tryz.func273.trans (congrArg some (by kernel_rfl))
 t0:=Tryz.underlying0
 a0:=Tryz.isAgg0
 z0:=Tryz.sizeOf0
 v0:=Tryz.zeroValue0
 t2:=Tryz.underlying2
 a2:=Tryz.isAgg2
 z2:=Tryz.sizeOf2
 v2:=Tryz.zeroValue2
 t3:=Tryz.underlying3
 a3:=Tryz.isAgg3
 z3:=Tryz.sizeOf3
 v3:=Tryz.zeroValue3
 t4:=Tryz.underlying4
 a4:=Tryz.isAgg4
 z4:=Tryz.sizeOf4
 v4:=Tryz.zeroValue4
 t5:=Tryz.underlying5
 a5:=Tryz.isAgg5
 z5:=Tryz.sizeOf5
 v5:=Tryz.zeroValue5
 t9:=Tryz.underlying9
 a9:=Tryz.isAgg9
 z9:=Tryz.sizeOf9
 v9:=Tryz.zeroValue9
 t20:=Tryz.underlying20
 a20:=Tryz.isAgg20
 z20:=Tryz.sizeOf20
 v20:=Tryz.zeroValue20
 t21:=Tryz.underlying21
 a21:=Tryz.isAgg21
 z21:=Tryz.sizeOf21
 v21:=Tryz.zeroValue21
 t37:=Tryz.underlying27
 a37:=Tryz.isAgg27
 z37:=Tryz.sizeOf27
 v37:=Tryz.zeroValue27
 t46:=Tryz.underlying150
 a46:=Tryz.isAgg150
 z46:=Tryz.sizeOf150
 v46:=Tryz.zeroValue150
 t51:=Tryz.underlying204
 a51:=Tryz.isAgg204
 z51:=Tryz.sizeOf204
 v51:=Tryz.zeroValue204
 t53:=Tryz.underlying203
 a53:=Tryz.isAgg203
 z53:=Tryz.sizeOf203
 v53:=Tryz.zeroValue203
 t75:=Tryz.underlying217
 a75:=Tryz.isAgg217
 z75:=Tryz.sizeOf217
 v75:=Tryz.zeroValue217
 t76:=Tryz.underlying218
 a76:=Tryz.isAgg218
 z76:=Tryz.sizeOf218
 v76:=Tryz.zeroValue218
 t85:=Tryz.underlying237
 a85:=Tryz.isAgg237
 z85:=Tryz.sizeOf237
 v85:=Tryz.zeroValue237
 t127:=Tryz.underlying253
 a127:=Tryz.isAgg253
 z127:=Tryz.sizeOf253
 v127:=Tryz.zeroValue253
 t143:=Tryz.underlying254
 a143:=Tryz.isAgg254
 z143:=Tryz.sizeOf254
 v143:=Tryz.zeroValue254
 t145:=Tryz.underlying256
 a145:=Tryz.isAgg256
 z145:=Tryz.sizeOf256
 v145:=Tryz.zeroValue256
 t167:=Tryz.underlying236
 a167:=Tryz.isAgg236
 z167:=Tryz.sizeOf236
 v167:=Tryz.zeroValue236
 t168:=Tryz.underlying239
 a168:=Tryz.isAgg239
 z168:=Tryz.sizeOf239
 v168:=Tryz.zeroValue239
 t171:=Tryz.underlying221
 a171:=Tryz.isAgg221
 z171:=Tryz.sizeOf221
 v171:=Tryz.zeroValue221
 t173:=Tryz.underlying224
 a173:=Tryz.isAgg224
 z173:=Tryz.sizeOf224
 v173:=Tryz.zeroValue224
 t175:=Tryz.underlying244
 a175:=Tryz.isAgg244
 z175:=Tryz.sizeOf244
 v175:=Tryz.zeroValue244
 t210:=Tryz.underlying248
 a210:=Tryz.isAgg248
 z210:=Tryz.sizeOf248
 v210:=Tryz.zeroValue248
 t212:=Tryz.underlying233
 a212:=Tryz.isAgg233
 z212:=Tryz.sizeOf233
 v212:=Tryz.zeroValue233
 t213:=Tryz.underlying234
 a213:=Tryz.isAgg234
 z213:=Tryz.sizeOf234
 t232:=Tryz.underlying250
 a232:=Tryz.isAgg250
 z232:=Tryz.sizeOf250
 v232:=Tryz.zeroValue250
 t233:=Tryz.underlying251
 a233:=Tryz.isAgg251
 z233:=Tryz.sizeOf251
 v233:=Tryz.zeroValue251
 g15:=by kernel_rfl
 g16:=by kernel_rfl
 g17:=by kernel_rfl
 g18:=by kernel_rfl
 g19:=by kernel_rfl }
open Go.RowKit in
theorem Tryz.strconv_Atoi (s:ByteArray) (n:Int) (hl:s.size≤18) (h:Lib.atoi s.data.toList=some n) (w:World) :
  Calls Tryz.prog 234 #[.string s] w fun e w'=>e = .returned (.tuple #[.int .i64 n,.nilIface])∧∃ t,w'=Lib.bytesWorld w 5 t:=Any.strconv_Atoi Tryz.lays172 s n hl h w
def Tryz.laysM171_ren:Go.Shelf.Ren:=⟨fun | 171=>147 | 243=>188 | 246=>218 | 283=>242 | 284=>243 | 285=>244 | 286=>245 | 129=>259 | 317=>258 | 318=>260 | 319=>261 | 320=>262 | 337=>272 | 338=>273 | n=>n,fun | 3=>3 | 9=>9 | 2=>2 | 4=>4 | 171=>221 | 0=>0 | 53=>203 | 37=>27 | 5=>5 | 173=>224 | 212=>233 | 51=>204 | 20=>20 | 213=>234 | 46=>150 | 232=>250 | 233=>251 | n=>n,fun | 17=>1 | 18=>4 | 19=>5 | n=>n⟩
theorem Tryz.laysM171:Go.Proofs.LaysM.n171 Tryz.prog Tryz.laysM171_ren:={
 mixed:=by kernel_rfl
 f129:=Tryz.func259.trans (congrArg some (by kernel_rfl))
 f171:=Tryz.func147.trans (congrArg some (by kernel_rfl))
 f243:=Tryz.func188.trans (congrArg some (by kernel_rfl))
 f246:=Tryz.func218.trans (congrArg some (by kernel_rfl))
 f283:=Tryz.func242.trans (congrArg some (by kernel_rfl))
 f284:=Tryz.func243.trans (congrArg some (by kernel_rfl))
 f285:=Tryz.func244.trans (congrArg some (by kernel_rfl))
 f286:=Tryz.func245.trans (congrArg some (by kernel_rfl))
 f317:=Tryz.func258.trans (congrArg some (by kernel_rfl))
 f318:=Tryz.func260.trans (congrArg some (by kernel_rfl))
 f319:=Tryz.func261.trans (congrArg some (by kernel_rfl))
 f320:=Tryz.func262.trans (congrArg some (by kernel_rfl))
 f337:=Tryz.func272.trans (congrArg some (by kernel_rfl))
 f338:=Tryz.func273.trans (congrArg some (by kernel_rfl))
 t0:=Tryz.underlying0
 a0:=Tryz.isAgg0
 z0:=Tryz.sizeOf0
 v0:=Tryz.zeroValue0
 t2:=Tryz.underlying2
 a2:=Tryz.isAgg2
 z2:=Tryz.sizeOf2
 v2:=Tryz.zeroValue2
 t3:=Tryz.underlying3
 a3:=Tryz.isAgg3
 z3:=Tryz.sizeOf3
 v3:=Tryz.zeroValue3
 t4:=Tryz.underlying4
 a4:=Tryz.isAgg4
 z4:=Tryz.sizeOf4
 v4:=Tryz.zeroValue4
 t5:=Tryz.underlying5
 a5:=Tryz.isAgg5
 z5:=Tryz.sizeOf5
 v5:=Tryz.zeroValue5
 t9:=Tryz.underlying9
 a9:=Tryz.isAgg9
 z9:=Tryz.sizeOf9
 v9:=Tryz.zeroValue9
 t20:=Tryz.underlying20
 a20:=Tryz.isAgg20
 z20:=Tryz.sizeOf20
 v20:=Tryz.zeroValue20
 t37:=Tryz.underlying27
 a37:=Tryz.isAgg27
 z37:=Tryz.sizeOf27
 v37:=Tryz.zeroValue27
 t46:=Tryz.underlying150
 a46:=Tryz.isAgg150
 z46:=Tryz.sizeOf150
 v46:=Tryz.zeroValue150
 t51:=Tryz.underlying204
 a51:=Tryz.isAgg204
 z51:=Tryz.sizeOf204
 v51:=Tryz.zeroValue204
 t53:=Tryz.underlying203
 a53:=Tryz.isAgg203
 z53:=Tryz.sizeOf203
 v53:=Tryz.zeroValue203
 t171:=Tryz.underlying221
 a171:=Tryz.isAgg221
 z171:=Tryz.sizeOf221
 v171:=Tryz.zeroValue221
 t173:=Tryz.underlying224
 a173:=Tryz.isAgg224
 z173:=Tryz.sizeOf224
 v173:=Tryz.zeroValue224
 t212:=Tryz.underlying233
 a212:=Tryz.isAgg233
 z212:=Tryz.sizeOf233
 v212:=Tryz.zeroValue233
 t213:=Tryz.underlying234
 a213:=Tryz.isAgg234
 z213:=Tryz.sizeOf234
 t232:=Tryz.underlying250
 a232:=Tryz.isAgg250
 z232:=Tryz.sizeOf250
 v232:=Tryz.zeroValue250
 t233:=Tryz.underlying251
 a233:=Tryz.isAgg251
 z233:=Tryz.sizeOf251
 v233:=Tryz.zeroValue251
 g17:=by kernel_rfl
 g18:=by kernel_rfl
 g19:=by kernel_rfl
 i0:=by kernel_rfl
 i2:=by kernel_rfl
 i3:=by kernel_rfl
 i4:=by kernel_rfl
 i5:=by kernel_rfl
 i9:=by kernel_rfl
 i20:=by kernel_rfl
 i37:=by kernel_rfl
 i46:=by kernel_rfl
 i51:=by kernel_rfl
 i53:=by kernel_rfl
 i171:=by kernel_rfl
 i173:=by kernel_rfl
 i212:=by kernel_rfl
 i232:=by kernel_rfl
 i233:=by kernel_rfl
 m17:=by kernel_rfl
 m18:=by kernel_rfl
 m19:=by kernel_rfl }
open Go.RowKit Go.Sort Go.Lib in
theorem Tryz.strconv_Itoa (n:Int) (h0:-9223372036854775808≤n) (h1:n≤9223372036854775807) (w:World) (htab:Lib.TabIs Tryz.prog w "internal/strconv.uint64pow10" .u64 Lib.pow10Tab) :
  Calls Tryz.prog 147 #[.int .i64 n] w fun e w'=>e = .returned (.string ⟨(Lib.itoa n).toArray⟩)∧∃ k os,w'=grow (w.drewN k) os:=Any.strconv_Itoa Tryz.laysM171 n h0 h1 w htab
def Tryz.lays217_ren:Go.Shelf.Ren:=⟨fun | 217=>219 | 266=>246 | n=>n,fun | 9=>9 | 5=>5 | 3=>3 | n=>n,fun | n=>n⟩
theorem Tryz.lays217:Go.Proofs.Lays.n217 Tryz.prog Tryz.lays217_ren:={
 mixed:=by kernel_rfl
 f217:=Tryz.func219.trans (congrArg some (by kernel_rfl))
 f266:=Tryz.func246.trans (congrArg some (by kernel_rfl))
 t3:=Tryz.underlying3
 a3:=Tryz.isAgg3
 z3:=Tryz.sizeOf3
 v3:=Tryz.zeroValue3
 t5:=Tryz.underlying5
 a5:=Tryz.isAgg5
 z5:=Tryz.sizeOf5
 v5:=Tryz.zeroValue5
 t9:=Tryz.underlying9
 a9:=Tryz.isAgg9
 z9:=Tryz.sizeOf9
 v9:=Tryz.zeroValue9 }
open Go.RowKit Go.Lib in
theorem Tryz.stringslite_IndexByte (s:ByteArray) (c:Int) (w:World) :
  Calls Tryz.prog 219 #[.string s,.int .u8 c] w fun e w'=>e = .returned (.int .i64 (Lib.indexByte s.data.toList c.toNat.toUInt8))∧w'=w:=Any.stringslite_IndexByte Tryz.lays217 s c w
end Go.Proofs
end
section
set_option linter.unusedVariables false
set_option linter.unusedSimpArgs false
namespace Go.Proofs.YtbnpclndiichcaaGreatDoor
open Go Go.Proofs.YtbnpclndiichcaaGreatDoor.Eng Go.RowKit
def gives:FuncId→Bool:=fun g=>Nat.beq g 143 || Nat.beq g (1000000+13) || Nat.beq g 3561190
theorem follows:Tryz.prog.follows .mixedOrders=true:=by kernel_rfl
abbrev Gs:={l:List (Nat×Obj) // ∀ w:World,(∀ x∈l,w.heap[x.1]? = some x.2)→Lib.TabIs Tryz.prog w "internal/strconv.uint64pow10" .u64 Lib.pow10Tab}
variable {G:Gs}
abbrev Tatoi:Type:=ByteArray→(Int→Value→Prop)→Prop
abbrev Titoa:Type:=Int→(ByteArray→Prop)→Prop
abbrev Tq4j:Type:=ByteArray→Int→(Int→Prop)→Prop
def Xatoi (s:ByteArray) (K:Int→Value→Prop):Prop:=∃ n,s.size≤18∧Lib.atoi s.data.toList=some n∧K n .nilIface
def Jatoi (X:ByteArray→(Int→Value→Prop)→Prop):Inst:=⟨234,(.cons .str .nil),.nil,(.cons (.int .i64) (.cons .val .nil)),.nil,fun x y K=>X x.1 (fun u0 u1=>K (u0,(u1,())) ())⟩
def Iatoi:Inst:=Jatoi Xatoi
theorem Iatoi_ok:InstOk Tryz.prog G.1 Iatoi:=fun ⟨s,_⟩ y K ⟨n,h1,h2,h3⟩ =>
 (told (args:=[.string s]) (rs:=[.int .i64 n,.nilIface]) rfl fun w _=>(Tryz.strconv_Atoi s n h1 h2 w).mono fun e w' ⟨he,t,hw⟩=>⟨he,by subst hw; exact Lib.bytesWorld_below _ _ _⟩).mono fun rs h' ⟨e1,e2⟩=>⟨(n,(.nilIface,())),(),e1,e2,h3⟩
def Xitoa (n:Int) (K:ByteArray→Prop):Prop:=(-9223372036854775808≤n∧n≤9223372036854775807)∧K ⟨(Lib.itoa n).toArray⟩
def Jitoa (X:Int→(ByteArray→Prop)→Prop):Inst:=⟨147,(.cons (.int .i64) .nil),.nil,(.cons .str .nil),.nil,fun x y K=>X x.1 (fun u0=>K (u0,()) ())⟩
def Iitoa:Inst:=Jitoa Xitoa
theorem Iitoa_ok:InstOk Tryz.prog G.1 Iitoa:=fun ⟨n,_⟩ y K ⟨h1,h3⟩ =>
 (told (args:=[.int .i64 n]) (rs:=[.string ⟨(Lib.itoa n).toArray⟩]) rfl fun w hw=>(Tryz.strconv_Itoa n h1.1 h1.2 w (G.2 w hw)).mono fun e w' ⟨he,k,os,hw⟩=>⟨he,by subst hw; exact Lib.below_grow _ _ (Nat.le_refl _) _ _⟩).mono fun rs h' ⟨e1,e2⟩=>⟨(⟨(Lib.itoa n).toArray⟩,()),(),e1,e2,h3⟩
def Xq4j (s:ByteArray) (c:Int) (K:Int→Prop):Prop:=K (Lib.indexByte s.data.toList c.toNat.toUInt8)
def Jq4j (X:ByteArray→Int→(Int→Prop)→Prop):Inst:=⟨219,(.cons .str (.cons (.int .u8) .nil)),.nil,(.cons (.int .i64) .nil),.nil,fun x y K=>X x.1 x.2.1 (fun u0=>K (u0,()) ())⟩
def Iq4j:Inst:=Jq4j Xq4j
theorem Iq4j_ok:InstOk Tryz.prog G.1 Iq4j:=fun ⟨s,c,_⟩ y K h3 =>
 (told (args:=[.string s,.int .u8 c]) (rs:=[.int .i64 (Lib.indexByte s.data.toList c.toNat.toUInt8)]) rfl fun w _=>(Tryz.stringslite_IndexByte s c w).mono fun e w' ⟨he,hw⟩=>⟨he,by subst hw; exact Below.refl _ _⟩).mono fun rs h' ⟨e1,e2⟩=>⟨(_,()),(),e1,e2,h3⟩
theorem gs_of {w:World} (h:Lib.TabIs Tryz.prog w "internal/strconv.uint64pow10" .u64 Lib.pow10Tab):∃ G:Gs,∀ x∈G.1,w.heap[x.1]? = some x.2:=by
 unfold Lib.TabIs World.var? at h
 cases hg:Tryz.prog.globalNamed "internal/strconv.uint64pow10" with
 | none=>rw [hg] at h; cases h
 | some g =>
  rw [hg] at h
  simp only [Option.bind_some] at h
  cases ho:w.heap[g]? with
  | none=>rw [ho] at h; cases h
  | some o =>
   rw [ho] at h
   refine ⟨⟨[(g,o)],fun w' hw=>?_⟩,fun x hx=>?_⟩
   ·have:=hw (g,o) (.head _)
    unfold Lib.TabIs World.var?
    rw [hg]
    simp only [Option.bind_some,this]
    exact h
   ·simp only [List.mem_singleton] at hx
    subst hx; exact ho
theorem globN:Tryz.prog.globalNamed "internal/strconv.uint64pow10" = some 1:=by kernel_rfl
end Go.Proofs.YtbnpclndiichcaaGreatDoor
end
section
set_option linter.unusedVariables false
set_option linter.unusedSimpArgs false
namespace Go.Proofs.YtbnpclndiichcaaGreatDoor
open Go Go.Proofs.YtbnpclndiichcaaGreatDoor.Eng
set_option maxRecDepth 100000
set_option maxHeartbeats 4000000
variable {G:Gs}
abbrev pL0:PL:=(.cons (.int .i32) .nil)
abbrev pL1:PL:=(.cons .bool .nil)
abbrev Q2:Type:=((Unit×Unit)×Bool×Int×Unit×Unit)×(ByteArray×Nat)×Unit
abbrev pT3:PT:=(.cons 1 (.fn (.func 144) .nil .nil) (.cons 2 .bool (.cons 6 (.int .i64) (.cons 10 (.it 224) .nil))))
abbrev pH4:PH:=(.cons 224 .iter .nil)
abbrev pL5:PL:=(.cons .str (.cons (.fn (.func 144) .nil .nil) (.cons .bool .nil)))
abbrev pL6:PL:=(.cons (.int .i64) .nil)
abbrev pL7:PL:=(.cons .str (.cons (.fn (.func 144) .nil .nil) .nil))
abbrev pL8:PL:=(.cons .str .nil)
abbrev Q9:Type:=(ByteArray×Unit×Bool×Unit×List Eng.V×Int×Int×Unit)×List (Go.Value×Eng.V)×List Eng.V×Unit
abbrev pT10:PT:=(.cons 2 .str (.cons 3 (.sla 816) (.cons 4 .bool (.cons 5 (.mp 224) (.cons 11 (.slN 1) (.cons 12 (.int .i64) (.cons 13 (.int .i64) .nil)))))))
abbrev pH11:PH:=(.cons 224 .mapI (.cons 816 (.arr 1 true false) .nil))
abbrev pL12:PL:=(.cons (.slN 1) .nil)
abbrev pL13:PL:=(.cons .str (.cons (.sla 0) (.cons .bool .nil)))
abbrev pH14:PH:=(.cons 0 (.arrB 1) .nil)
abbrev Q15:Type:=List Eng.V×List Eng.V×List Eng.V×ByteArray×Int×Unit
abbrev Q16:Type:=(ByteArray×Unit×Bool×Unit×List Eng.V×Int×Int×Unit)×List Eng.V×Unit
abbrev pT17:PT:=(.cons 2 .str (.cons 3 (.nl 0) (.cons 4 .bool (.cons 5 (.sla 480) (.cons 9 (.slN 3) (.cons 10 (.int .i64) (.cons 11 (.int .i64) .nil)))))))
abbrev pH18:PH:=(.cons 480 (.arr 1 true false) .nil)
abbrev pL19:PL:=(.cons (.agg (.cons (.slN 3) (.cons (.slN 2) (.cons (.slN 2) (.cons .str (.cons (.int .i64) .nil)))))) .nil)
abbrev pL20:PL:=(.cons (.int .i64) (.cons (.int .i64) (.cons (.int .i64) .nil)))
abbrev Q21:Type:=Int×Int×Int×Int×Int×Int×Int×Unit
abbrev pL22:PL:=(.cons (.agg (.cons (.int .i64) (.cons (.int .i64) (.cons (.int .i64) (.cons (.int .i64) (.cons (.int .i64) (.cons (.int .i64) (.cons (.int .i64) .nil)))))))) .nil)
abbrev pL23:PL:=(.cons (.agg (.cons (.int .i64) (.cons (.int .i64) (.cons (.int .i64) (.cons (.int .i64) (.cons (.int .i64) (.cons (.int .i64) (.cons (.int .i64) .nil)))))))) (.cons .bool .nil))
abbrev pL24:PL:=(.cons (.int .i64) (.cons (.int .i64) .nil))
abbrev pL25:PL:=(.cons (.int .i64) (.cons .bool .nil))
abbrev Q26:Type:=(List Eng.V×Int×Int×Unit×List Eng.V×Int×Int×Unit)×(Int×Int×Unit)×Unit
abbrev pT27:PT:=(.cons 0 (.slN 2) (.cons 2 (.int .i64) (.cons 3 (.int .i64) (.cons 4 (.ptr 128 0) (.cons 12 (.slN 2) (.cons 13 (.int .i64) (.cons 14 (.int .i64) .nil)))))))
abbrev pH28:PH:=(.cons 128 (.cells [.int .i64,.int .i64] (.cons (.int .i64) (.cons (.int .i64) .nil))) .nil)
abbrev pL29:PL:=(.cons (.slN 2) .nil)
abbrev pL30:PL:=(.cons (.sla 0) .nil)
abbrev pH31:PH:=(.cons 0 (.arrB 2) .nil)
abbrev Q32:Type:=Int×Bool×ByteArray×Unit
abbrev pL33:PL:=(.cons (.int .i64) (.cons (.agg (.cons (.int .i64) (.cons .bool (.cons .str .nil)))) .nil))
abbrev Q34:Type:=((Unit×Unit)×Bool×List Eng.V×Int×Int×Unit)×Unit
abbrev pT35:PT:=(.cons 1 (.fn (.func 55) .nil .nil) (.cons 4 .bool (.cons 7 (.slN 3) (.cons 8 (.int .i64) (.cons 9 (.int .i64) .nil)))))
abbrev pL36:PL:=(.cons (.slN 3) (.cons (.fn (.func 55) .nil .nil) .nil))
abbrev Q37:Type:=Int×Int×Unit
abbrev pL38:PL:=(.cons (.int .i64) (.cons (.agg (.cons (.int .i64) (.cons (.int .i64) .nil))) (.cons (.ptr 0 0) .nil)))
abbrev pH39:PH:=(.cons 0 (.cells [.sl 3,.sl 2,.sl 2,.str,.int .i64] (.cons (.slN 3) (.cons (.slN 2) (.cons (.slN 2) (.cons .str (.cons (.int .i64) .nil)))))) .nil)
abbrev pH40:PH:=(.cons 0 (.cells [.sl 3,.sl 2,.sl 2,.str,.int .i64] (.cons (.sla 1) (.cons (.sla 2) (.cons (.sla 3) (.cons .str (.cons (.int .i64) .nil)))))) (.cons 1 (.arrB 3) (.cons 2 (.arrB 2) (.cons 3 (.arrB 2) .nil))))
abbrev Q41:Type:=((Unit×Unit×Unit)×Bool×List Eng.V×Int×Int×Unit)×(List Eng.V×List Eng.V×List Eng.V×ByteArray×Int×Unit)×Unit
abbrev pT42:PT:=(.cons 1 (.fn (.func 57) .nil (.cons (.ptr 0 0) .nil)) (.cons 4 .bool (.cons 7 (.slN 2) (.cons 8 (.int .i64) (.cons 9 (.int .i64) .nil)))))
abbrev pL43:PL:=(.cons (.slN 2) (.cons (.fn (.func 57) .nil (.cons (.ptr 0 0) .nil)) .nil))
abbrev pL44:PL:=(.cons (.agg (.cons (.int .i64) (.cons .bool (.cons .str .nil)))) (.cons .bool .nil))
abbrev Q45:Type:=Int×Int×Int×Int×Int×Unit
abbrev pL46:PL:=(.cons (.agg (.cons (.int .i64) (.cons (.int .i64) (.cons (.int .i64) (.cons (.int .i64) (.cons (.int .i64) .nil)))))) .nil)
abbrev Q47:Type:=Int×Bool×ByteArray×Int×Bool×ByteArray×Bool×Int×Int×Int×Int×Int×Int×Int×Int×Int×Int×Unit
abbrev pL48:PL:=(.cons (.agg (.cons (.int .i64) (.cons .bool (.cons .str (.cons (.int .i64) (.cons .bool (.cons .str (.cons .bool (.cons (.int .i64) (.cons (.int .i64) (.cons (.int .i64) (.cons (.int .i64) (.cons (.int .i64) (.cons (.int .i64) (.cons (.int .i64) (.cons (.int .i64) (.cons (.int .i64) (.cons (.int .i64) .nil)))))))))))))))))) .nil)
abbrev pL49:PL:=(.cons .str (.cons .str .nil))
abbrev pL50:PL:=(.cons .str (.cons .bool .nil))
abbrev pL51:PL:=(.cons .str (.cons .str (.cons .bool .nil)))
abbrev pT52:PT:=(.cons 1 (.fn (.func 230) .nil .nil) (.cons 2 .bool (.cons 6 (.int .i64) (.cons 10 (.it 224) .nil))))
abbrev pL53:PL:=(.cons .str (.cons (.fn (.func 230) .nil .nil) (.cons .bool .nil)))
abbrev pL54:PL:=(.cons .str (.cons (.fn (.func 230) .nil .nil) .nil))
abbrev pL55:PL:=(.cons (.ptr 0 0) .nil)
abbrev pH56:PH:=(.cons 0 (.cells [.str,.int .i64,.bool,.str,.int .i64,.bool,.str,.bool,.int .i64,.int .i64,.int .i64,.int .i64,.int .i64,.int .i64,.int .i64,.int .i64,.int .i64,.int .i64] (.cons .str (.cons (.int .i64) (.cons .bool (.cons .str (.cons (.int .i64) (.cons .bool (.cons .str (.cons .bool (.cons (.int .i64) (.cons (.int .i64) (.cons (.int .i64) (.cons (.int .i64) (.cons (.int .i64) (.cons (.int .i64) (.cons (.int .i64) (.cons (.int .i64) (.cons (.int .i64) (.cons (.int .i64) .nil))))))))))))))))))) .nil)
abbrev Q57:Type:=(ByteArray×Int×Unit×Unit)×(ByteArray×Nat)×Unit
abbrev pT58:PT:=(.cons 0 .str (.cons 2 (.int .i64) (.cons 6 (.it 160) .nil)))
abbrev pH59:PH:=(.cons 160 .iter .nil)
abbrev pL60:PL:=(.cons (.int .i64) (.cons .str (.cons .bool .nil)))
abbrev pL61:PL:=(.cons .str (.cons (.int .i64) .nil))
abbrev pL62:PL:=(.cons (.agg (.cons (.int .i64) (.cons (.int .i64) (.cons (.int .i64) (.cons (.int .i64) (.cons (.int .i64) .nil)))))) (.cons .str (.cons .bool .nil)))
abbrev pL63:PL:=(.cons (.ptr 0 0) (.cons (.ptr 0 8) .nil))
abbrev pL64:PL:=(.cons (.ptr 0 0) (.cons (.ptr 0 13) .nil))
abbrev pL65:PL:=(.cons (.agg (.cons (.int .i64) (.cons .bool (.cons .str (.cons (.int .i64) (.cons .bool (.cons .str (.cons .bool (.cons (.int .i64) (.cons (.int .i64) (.cons (.int .i64) (.cons (.int .i64) (.cons (.int .i64) (.cons (.int .i64) (.cons (.int .i64) (.cons (.int .i64) (.cons (.int .i64) (.cons (.int .i64) .nil)))))))))))))))))) (.cons .bool .nil))
abbrev pL66:PL:=(.cons (.int .i64) (.cons (.ptr 0 0) (.cons (.ptr 1 0) .nil)))
abbrev pH67:PH:=(.cons 0 (.cells [.sl 3,.sl 2,.sl 2,.str,.int .i64] (.cons (.slN 3) (.cons (.slN 2) (.cons (.slN 2) (.cons .str (.cons (.int .i64) .nil)))))) (.cons 1 (.cells [.int .i64] (.cons (.int .i64) .nil)) .nil))
abbrev pH68:PH:=(.cons 0 (.cells [.sl 3,.sl 2,.sl 2,.str,.int .i64] (.cons (.sla 2) (.cons (.sla 3) (.cons (.sla 4) (.cons .str (.cons (.int .i64) .nil)))))) (.cons 1 (.cells [.int .i64] (.cons (.int .i64) .nil)) (.cons 2 (.arrB 3) (.cons 3 (.arrB 2) (.cons 4 (.arrB 2) .nil)))))
abbrev Q69:Type:=((Unit×Unit×Unit×Unit)×Int×Int×Int×Unit)×(List Eng.V×List Eng.V×List Eng.V×ByteArray×Int×Unit)×(Int×Unit)×Unit
abbrev pT70:PT:=(.cons 1 (.fn (.func 117) .nil (.cons (.ptr 0 0) (.cons (.ptr 1 0) .nil))) (.cons 4 (.int .i64) (.cons 5 (.int .i64) (.cons 6 (.int .i64) .nil))))
abbrev pL71:PL:=(.cons (.int .i64) (.cons (.fn (.func 117) .nil (.cons (.ptr 0 0) (.cons (.ptr 1 0) .nil))) .nil))
abbrev pL72:PL:=(.cons (.agg (.cons (.slN 3) (.cons (.slN 2) (.cons (.slN 2) (.cons .str (.cons (.int .i64) .nil)))))) (.cons (.int .i64) .nil))
abbrev pH73:PH:=(.cons 0 (.cells [.sl 2] (.cons (.sla 2) .nil)) (.cons 1 (.cells [.int .i64] (.cons (.int .i64) .nil)) (.cons 2 (.arrB 2) .nil)))
abbrev pH74:PH:=(.cons 0 (.cells [.sl 2] (.cons (.slN 2) .nil)) (.cons 1 (.cells [.int .i64] (.cons (.int .i64) .nil)) .nil))
abbrev Q75:Type:=((Unit×Unit×Unit×Unit)×Int×Int×Int×Unit)×(List Eng.V×Unit)×(Int×Unit)×(List Eng.V×Bool×Bool)×Unit
abbrev pT76:PT:=(.cons 1 (.fn (.func 180) .nil (.cons (.ptr 0 0) (.cons (.ptr 1 0) .nil))) (.cons 4 (.int .i64) (.cons 5 (.int .i64) (.cons 6 (.int .i64) .nil))))
abbrev pH77:PH:=(.cons 0 (.cells [.sl 2] (.cons (.slN 2) .nil)) (.cons 1 (.cells [.int .i64] (.cons (.int .i64) .nil)) (.cons 2 (.arrB 2) .nil)))
abbrev pL78:PL:=(.cons (.int .i64) (.cons (.fn (.func 180) .nil (.cons (.ptr 0 0) (.cons (.ptr 1 0) .nil))) .nil))
abbrev pL79:PL:=(.cons (.slN 2) (.cons (.int .i64) .nil))
abbrev pL80:PL:=(.cons (.int .i64) (.cons (.int .i64) (.cons .bool .nil)))
abbrev pL81:PL:=(.cons (.int .i64) (.cons (.int .i64) (.cons (.int .i64) (.cons .bool .nil))))
abbrev pL82:PL:=(.cons (.agg (.cons (.int .i64) (.cons (.int .i64) (.cons (.int .i64) (.cons (.int .i64) (.cons (.int .i64) .nil)))))) (.cons (.int .i64) .nil))
abbrev pL83:PL:=(.cons (.agg (.cons (.int .i64) (.cons .bool (.cons .str (.cons (.int .i64) (.cons .bool (.cons .str (.cons .bool (.cons (.int .i64) (.cons (.int .i64) (.cons (.int .i64) (.cons (.int .i64) (.cons (.int .i64) (.cons (.int .i64) (.cons (.int .i64) (.cons (.int .i64) (.cons (.int .i64) (.cons (.int .i64) .nil)))))))))))))))))) (.cons (.int .i64) .nil))
abbrev pL84:PL:=(.cons (.agg (.cons (.int .i64) (.cons .bool (.cons .str .nil)))) .nil)
abbrev pT85:PT:=(.cons 1 (.fn (.func 182) .nil (.cons (.ptr 0 0) (.cons (.ptr 1 0) .nil))) (.cons 4 (.int .i64) (.cons 5 (.int .i64) (.cons 6 (.int .i64) .nil))))
abbrev pL86:PL:=(.cons (.int .i64) (.cons (.fn (.func 182) .nil (.cons (.ptr 0 0) (.cons (.ptr 1 0) .nil))) .nil))
abbrev Q87:Type:=Int×Int×Bool×Unit
abbrev pL88:PL:=(.cons (.int .i64) (.cons (.agg (.cons (.int .i64) (.cons (.int .i64) (.cons .bool .nil)))) (.cons (.int .i64) .nil)))
abbrev Q89:Type:=List Eng.V×Bool×Int×Unit
abbrev Q90:Type:=(Unit×Int×Int×Int×List Eng.V×Int×Int×Unit)×(List Eng.V×Bool×Int×Unit)×Unit
abbrev pT91:PT:=(.cons 1 (.ptr 80 0) (.cons 2 (.int .i64) (.cons 3 (.int .i64) (.cons 4 (.int .i64) (.cons 11 (.slN 3) (.cons 12 (.int .i64) (.cons 13 (.int .i64) .nil)))))))
abbrev pH92:PH:=(.cons 80 (.cells [.sl 3,.bool,.int .i64] (.cons (.slN 3) (.cons .bool (.cons (.int .i64) .nil)))) .nil)
abbrev pL93:PL:=(.cons (.agg (.cons (.slN 3) (.cons .bool (.cons (.int .i64) .nil)))) .nil)
abbrev Q94:Type:=Unit×Bool×Int×Unit
abbrev Q95:Type:=(List Eng.V×Unit×Bool×Int×Unit×Unit×Int×Int×Unit)×(Unit×Bool×Int×Unit)×(List Eng.V×Bool×Bool)×List Eng.V×Unit
abbrev pT96:PT:=(.cons 0 (.slN 2) (.cons 2 (.ptr 96 0) (.cons 3 .bool (.cons 4 (.int .i64) (.cons 5 (.sla 272) (.cons 14 (.sla 272) (.cons 15 (.int .i64) (.cons 16 (.int .i64) .nil))))))))
abbrev pH97:PH:=(.cons 96 (.cells [.sl 3,.bool,.int .i64] (.cons (.sla 1552) (.cons .bool (.cons (.int .i64) .nil)))) (.cons 272 (.arrB 2) (.cons 1552 (.arr 3 true false) .nil)))
abbrev pL98:PL:=(.cons (.agg (.cons (.sla 0) (.cons .bool (.cons (.int .i64) .nil)))) (.cons .bool .nil))
abbrev pH99:PH:=(.cons 0 (.arrB 3) .nil)
abbrev pL100:PL:=(.cons (.agg (.cons (.int .i64) (.cons (.int .i64) (.cons .bool .nil)))) (.cons (.int .i64) .nil))
abbrev Q101:Type:=(List Eng.V×Int×(Unit×Unit)×Int×Bool×Int×Int×Int×Unit)×Unit
abbrev pT102:PT:=(.cons 0 (.slN 3) (.cons 1 (.int .i64) (.cons 2 (.fn (.func 249) .nil .nil) (.cons 6 (.int .i64) (.cons 7 .bool (.cons 8 (.int .i64) (.cons 9 (.int .i64) (.cons 10 (.int .i64) .nil))))))))
abbrev pL103:PL:=(.cons (.slN 3) (.cons (.int .i64) (.cons (.fn (.func 249) .nil .nil) .nil)))
abbrev Q104:Type:=(List Eng.V×Int×Int×Unit×Int×Int×Unit)×(Unit×Bool×Int×Unit)×(List Eng.V×Bool×Bool)×Unit
abbrev pT105:PT:=(.cons 0 (.slN 2) (.cons 1 (.int .i64) (.cons 4 (.int .i64) (.cons 5 (.ptr 144 0) (.cons 7 (.int .i64) (.cons 8 (.int .i64) .nil))))))
abbrev pH106:PH:=(.cons 144 (.cells [.sl 3,.bool,.int .i64] (.cons (.sla 240) (.cons .bool (.cons (.int .i64) .nil)))) (.cons 240 (.arrB 3) .nil))
abbrev pL107:PL:=(.cons (.slN 2) (.cons (.int .i64) (.cons (.int .i64) .nil)))
abbrev Q108:Type:=(Unit×ByteArray×Unit×Int×Int×Unit)×(List Eng.V×Bool×Bool)×List Eng.V×Unit
abbrev pT109:PT:=(.cons 1 (.sla 0) (.cons 4 .str (.cons 5 (.sla 208) (.cons 6 (.int .i64) (.cons 7 (.int .i64) .nil)))))
abbrev pH110:PH:=(.cons 0 (.arrB 1) (.cons 208 (.arr 1 true false) .nil))
abbrev pL111:PL:=(.cons .str (.cons (.sla 0) .nil))
abbrev Q112:Type:=Int×Int×Int×Int×Int×Bool×ByteArray×Unit
abbrev pL113:PL:=(.cons (.agg (.cons (.int .i64) (.cons (.int .i64) (.cons (.int .i64) (.cons (.int .i64) (.cons (.int .i64) (.cons .bool (.cons .str .nil)))))))) .nil)
abbrev Q114:Type:=(ByteArray×ByteArray×Unit×Bool×Int×Bool×Unit×Unit)×(ByteArray×Nat)×List Eng.V×Unit
abbrev pT115:PT:=(.cons 0 .str (.cons 1 .str (.cons 4 (.sla 1232) (.cons 5 .bool (.cons 6 (.int .i64) (.cons 7 .bool (.cons 11 (.it 240) .nil)))))))
abbrev pH116:PH:=(.cons 240 .iter (.cons 1232 (.arr 1 true false) .nil))
abbrev pL117:PL:=(.cons (.sla 0) (.cons .bool .nil))
abbrev Q118:Type:=(ByteArray×Int×Bool×Unit×Int×Int×Unit)×(List Eng.V×Bool×Bool)×Unit
abbrev pT119:PT:=(.cons 0 .str (.cons 2 (.int .i64) (.cons 3 .bool (.cons 34 (.sla 528) (.cons 35 (.int .i64) (.cons 36 (.int .i64) .nil))))))
abbrev pH120:PH:=(.cons 528 (.arrB 1) .nil)
abbrev pL121:PL:=(.cons (.agg (.cons (.int .i64) (.cons (.int .i64) (.cons (.int .i64) (.cons (.int .i64) (.cons (.int .i64) (.cons .bool (.cons .str .nil)))))))) (.cons .bool .nil))
abbrev pL122:PL:=(.cons (.agg (.cons (.int .i64) (.cons (.int .i64) (.cons (.int .i64) (.cons (.int .i64) (.cons (.int .i64) (.cons .bool (.cons .str .nil)))))))) (.cons (.int .i64) .nil))
abbrev Q123:Type:=(ByteArray×Unit×Int×Int×Unit×Int×Int×Unit)×(List Eng.V×List Eng.V×List Eng.V×ByteArray×Int×Unit)×List Eng.V×Unit
abbrev pT124:PT:=(.cons 1 .str (.cons 2 (.ptr 96 0) (.cons 4 (.int .i64) (.cons 5 (.int .i64) (.cons 62 (.sla 1056) (.cons 63 (.int .i64) (.cons 64 (.int .i64) .nil)))))))
abbrev pH125:PH:=(.cons 96 (.cells [.sl 3,.sl 2,.sl 2,.str,.int .i64] (.cons (.slN 3) (.cons (.slN 2) (.cons (.slN 2) (.cons .str (.cons (.int .i64) .nil)))))) (.cons 1056 (.arr 1 true false) .nil))
abbrev pL126:PL:=(.cons (.agg (.cons (.slN 3) (.cons (.slN 2) (.cons (.slN 2) (.cons .str (.cons (.int .i64) .nil)))))) (.cons .str .nil))
abbrev Q127:Type:=(Unit×Bool×Int×Unit)×(List Eng.V×List Eng.V×List Eng.V×ByteArray×Int×Unit)×Unit
abbrev pT128:PT:=(.cons 1 (.ptr 80 0) (.cons 2 .bool (.cons 3 (.int .i64) .nil)))
abbrev pH129:PH:=(.cons 80 (.cells [.sl 3,.sl 2,.sl 2,.str,.int .i64] (.cons (.slN 3) (.cons (.slN 2) (.cons (.slN 2) (.cons .str (.cons (.int .i64) .nil)))))) .nil)
abbrev Tq49:Type:=Int→(Bool→Prop)→Prop
def Yq49 (a0:Int) (K:Bool→Prop):Prop :=
 (if decide (a0≥97) then
 (if decide (a0≤122) then
 K true
 else
 (if decide (a0≥65) then
 (if decide (a0≤90) then
 K true
 else
 (if decide (a0≥48) then
 (if decide (a0≤57) then
 K true
 else
 (if (a0 == 43) then
 K true
 else
 K (a0 == 45)))
 else
 (if (a0 == 43) then
 K true
 else
 K (a0 == 45))))
 else
 (if decide (a0≥48) then
 (if decide (a0≤57) then
 K true
 else
 (if (a0 == 43) then
 K true
 else
 K (a0 == 45)))
 else
 (if (a0 == 43) then
 K true
 else
 K (a0 == 45)))))
 else
 (if decide (a0≥65) then
 (if decide (a0≤90) then
 K true
 else
 (if decide (a0≥48) then
 (if decide (a0≤57) then
 K true
 else
 (if (a0 == 43) then
 K true
 else
 K (a0 == 45)))
 else
 (if (a0 == 43) then
 K true
 else
 K (a0 == 45))))
 else
 (if decide (a0≥48) then
 (if decide (a0≤57) then
 K true
 else
 (if (a0 == 43) then
 K true
 else
 K (a0 == 45)))
 else
 (if (a0 == 43) then
 K true
 else
 K (a0 == 45)))))
def Xq49:Tq49:=Yq49
def Jq49 (X:Tq49):Inst:=mkI 145 pL0 .nil pL1 .nil X
def Iq49:Inst:=Jq49 Xq49
theorem Eq49:EqF Tryz.prog 33 gives Tryz.f145 [] [] (Jq49 (Yq49)):=fun x y K=>by kernel_rfl
theorem Iq49_ok:InstOk Tryz.prog G.1 Iq49:=iok (gives:=gives) [] okNil 33 follows Tryz.func145 (by kernel_rfl) (fun x=>by kernel_rfl) (Eq49)
abbrev Tq2s:Type:=Int→(Bool→Prop)→Prop
def Yq2s (xq49:Tq49) (a0:Int) (K:Bool→Prop):Prop :=
 xq49 a0 (fun r1 =>
 K !r1)
def Xq2s:Tq2s:=Yq2s Xq49
def Jq2s (X:Tq2s):Inst:=mkI 144 pL0 .nil pL1 .nil X
def Iq2s:Inst:=Jq2s Xq2s
theorem Eq2s (xq49:Tq49):EqF Tryz.prog 6 gives Tryz.f144 [Jq49 xq49] [] (Jq2s (Yq2s xq49)):=fun x y K=>by kernel_rfl
theorem Iq2s_ok:InstOk Tryz.prog G.1 Iq2s:=iok (gives:=gives) [] (okCons Iq49_ok okNil) 6 follows Tryz.func144 (by kernel_rfl) (fun x=>by kernel_rfl) (Eq2s Xq49)
abbrev Tq0n:Type:=ByteArray→Bool→(Int→Prop)→Prop
def Lq0n_0 (xq2s:Tq2s) (K:Int→Prop):(Q2→Prop)→Q2→Prop:=fun k2 x3 =>
 (if x3.2.1.2 < ByteArray.size x3.2.1.1 then
 xq2s (↑(Prod.fst (Go.Utf8.decode x3.2.1.1 x3.2.1.2)):Int) (fun r4 =>
 (if (r4 == x3.1.2.1) then
 K (↑(x3.2.1.2):Int)
 else
 k2 ((((),()),x3.1.2.1,x3.1.2.2.1,(),()),(x3.2.1.1,x3.2.1.2+Prod.snd (Go.Utf8.decode x3.2.1.1 x3.2.1.2)),())))
 else
 K (-1))
def Lq0n_0p:Lp:=⟨1094,[.trim 1094],pT3,pH4,0⟩
def Yq0n (xq2s:Tq2s) (a0:ByteArray) (a1:Bool) (K:Int→Prop):Prop :=
 lp (Lq0n_0 xq2s K) ((((),()),a1,0,(),()),(a0,(0:Nat)),())
def Xq0n:Tq0n:=Yq0n Xq2s
def Jq0n (X:Tq0n):Inst:=mkI 217 pL5 .nil pL6 .nil X
def Iq0n:Inst:=Jq0n Xq0n
theorem Eq0n (xq2s:Tq2s):EqF Tryz.prog 21 gives Tryz.f217 [Jq2s xq2s] [Lq0n_0p] (Jq0n (Yq0n xq2s)):=fun x y K=>by kernel_rfl
theorem Iq0n_ok:InstOk Tryz.prog G.1 Iq0n:=iok (gives:=gives) [Lq0n_0p] (okCons Iq2s_ok okNil) 21 follows Tryz.func217 (by kernel_rfl) (fun x=>by kernel_rfl) (Eq0n Xq2s)
abbrev Tq0s:Type:=ByteArray→(Int→Prop)→Prop
def Yq0s (xq0n:Tq0n) (a0:ByteArray) (K:Int→Prop):Prop :=
 xq0n a0 true (fun r1 =>
 K r1)
def Xq0s:Tq0s:=Yq0s Xq0n
def Jq0s (X:Tq0s):Inst:=mkI 187 pL7 .nil pL6 .nil X
def Iq0s:Inst:=Jq0s Xq0s
theorem Eq0s (xq0n:Tq0n):EqF Tryz.prog 8 gives Tryz.f187 [Jq0n xq0n] [] (Jq0s (Yq0s xq0n)):=fun x y K=>by kernel_rfl
theorem Iq0s_ok:InstOk Tryz.prog G.1 Iq0s:=iok (gives:=gives) [] (okCons Iq0n_ok okNil) 8 follows Tryz.func187 (by kernel_rfl) (fun x=>by kernel_rfl) (Eq0s Xq0n)
abbrev Tq07:Type:=ByteArray→(Bool→Prop)→Prop
def Yq07 (xq0s:Tq0s) (a0:ByteArray) (K:Bool→Prop):Prop :=
 xq0s a0 (fun r1 =>
 K (decide (r1≥0)))
def Xq07:Tq07:=Yq07 Xq0s
def Jq07 (X:Tq07):Inst:=mkI 146 pL7 .nil pL1 .nil X
def Iq07:Inst:=Jq07 Xq07
theorem Eq07 (xq0s:Tq0s):EqF Tryz.prog 9 gives Tryz.f146 [Jq0s xq0s] [] (Jq07 (Yq07 xq0s)):=fun x y K=>by kernel_rfl
theorem Iq07_ok:InstOk Tryz.prog G.1 Iq07:=iok (gives:=gives) [] (okCons Iq0s_ok okNil) 9 follows Tryz.func146 (by kernel_rfl) (fun x=>by kernel_rfl) (Eq07 Xq0s)
abbrev Tq3r:Type:=ByteArray→(Bool→Prop)→Prop
def Yq3r (xq07:Tq07) (a0:ByteArray) (K:Bool→Prop):Prop :=
 (if decide ((↑(ByteArray.size a0):Int)≥3) then
 (if decide ((↑(ByteArray.size a0):Int)≤16) then
 xq07 a0 (fun r1 =>
 K !r1)
 else
 K false)
 else
 K false)
def Xq3r:Tq3r:=Yq3r Xq07
def Jq3r (X:Tq3r):Inst:=mkI 83 pL8 .nil pL1 .nil X
def Iq3r:Inst:=Jq3r Xq3r
theorem Eq3r (xq07:Tq07):EqF Tryz.prog 18 gives Tryz.f83 [Jq07 xq07] [] (Jq3r (Yq3r xq07)):=fun x y K=>by kernel_rfl
theorem Iq3r_ok:InstOk Tryz.prog G.1 Iq3r:=iok (gives:=gives) [] (okCons Iq07_ok okNil) 18 follows Tryz.func83 (by kernel_rfl) (fun x=>by kernel_rfl) (Eq3r Xq07)
abbrev Tq47:Type:=(List Eng.V)→(ByteArray→Bool→(List Eng.V)→Bool→Bool→Prop)→Prop
def Lq47_0 (xq3r:Tq3r) (K:ByteArray→Bool→(List Eng.V)→Bool→Bool→Prop):(Q9→Prop)→Q9→Prop:=fun k1 x2 =>
 (if decide (x2.1.2.2.2.2.2.2.1 < x2.1.2.2.2.2.2.1) then
 (if 0≤x2.1.2.2.2.2.2.2.1∧x2.1.2.2.2.2.2.2.1 < (↑(List.length x2.1.2.2.2.2.1):Int) then
 (Eng.asStr (Eng.getC x2.1.2.2.2.2.1 (Int.toNat x2.1.2.2.2.2.2.2.1) (0:Nat)) False fun t3 =>
 xq3r t3 (fun r4 =>
 (if (!r4) then
 K (ByteArray.mk #[]) false [] true true
 else
 (Eng.asMpI IntKind.i64 (Eng.mpGet t3 x2.2.1) False fun n5 n6 =>
 (if (!n6) then
 (if Option.isSome (Eng.mpGet t3 x2.2.1) then
 (if (↑(ByteArray.size t3+(1:Nat)):Int) > 9223372036854775807 then
 False
 else
 (if (↑(ByteArray.size x2.1.1+ByteArray.size (t3++ByteArray.mk #[(0:UInt8)])):Int) > 9223372036854775807 then
 False
 else
 (lt (x2.1.1++(t3++ByteArray.mk #[(0:UInt8)])) fun v7 =>
 (if Eng.roomOk (List.length x2.2.2.1+List.length [Eng.V.c (Value.int IntKind.i64 (↑(ByteArray.size x2.1.1):Int))]) (8:Nat) then
 k1 ((v7,(),x2.1.2.2.1,(),x2.1.2.2.2.2.1,x2.1.2.2.2.2.2.1,w64 (x2.1.2.2.2.2.2.2.1+1),()),Eng.mpPut t3 (Eng.V.c (Value.int IntKind.i64 (↑(ByteArray.size x2.1.1):Int))) x2.2.1,x2.2.2.1++[Eng.V.c (Value.int IntKind.i64 (↑(ByteArray.size x2.1.1):Int))],())
 else
 False))))
 else
 False)
 else
 (if Eng.roomOk (List.length x2.2.2.1+List.length [Eng.V.c (Value.int IntKind.i64 n5)]) (8:Nat) then
 k1 ((x2.1.1,(),x2.1.2.2.1,(),x2.1.2.2.2.2.1,x2.1.2.2.2.2.2.1,w64 (x2.1.2.2.2.2.2.2.1+1),()),x2.2.1,x2.2.2.1++[Eng.V.c (Value.int IntKind.i64 n5)],())
 else
 False))))))
 else
 False)
 else
 (if decide ((↑(ByteArray.size x2.1.1):Int) > 256) then
 K (ByteArray.mk #[]) false [] true true
 else
 K x2.1.1 true x2.2.2.1 true false))
def Lq47_0p:Lp:=⟨14396,[.trim 14396,.fat 3 1 816,.trim 14396],pT10,pH11,0⟩
def Yq47 (xq3r:Tq3r) (a0:(List Eng.V)) (K:ByteArray→Bool→(List Eng.V)→Bool→Bool→Prop):Prop :=
 lp (Lq47_0 xq3r K) ((ByteArray.mk #[],(),false,(),a0,(↑(List.length a0):Int),0,()),[],[],())
def Xq47:Tq47:=Yq47 Xq3r
def Jq47 (X:Tq47):Inst:=mkI 124 pL12 .nil pL13 pH14 X
def Iq47:Inst:=Jq47 Xq47
theorem Eq47 (xq3r:Tq3r):EqF Tryz.prog 47 gives Tryz.f124 [Jq3r xq3r] [Lq47_0p] (Jq47 (Yq47 xq3r)):=fun x y K=>by kernel_rfl
theorem Iq47_ok:InstOk Tryz.prog G.1 Iq47:=iok (gives:=gives) [Lq47_0p] (okCons Iq3r_ok okNil) 47 follows Tryz.func124 (by kernel_rfl) (fun x=>by kernel_rfl) (Eq47 Xq3r)
abbrev Tq3v:Type:=Q15→(ByteArray→Bool→(List Eng.V)→Bool→Bool→Prop)→Prop
def Lq3v_0 (xq47:Tq47) (K:ByteArray→Bool→(List Eng.V)→Bool→Bool→Prop):(Q16→Prop)→Q16→Prop:=fun k1 x2 =>
 (if decide (x2.1.2.2.2.2.2.2.1 < x2.1.2.2.2.2.2.1) then
 (if 0≤x2.1.2.2.2.2.2.2.1∧x2.1.2.2.2.2.2.2.1 < (↑(List.length x2.1.2.2.2.2.1):Int) then
 (Eng.asInt IntKind.i64 (Eng.getC x2.1.2.2.2.2.1 (Int.toNat x2.1.2.2.2.2.2.2.1) (0:Nat)) False fun n3 =>
 (Eng.asBool (Eng.getC x2.1.2.2.2.2.1 (Int.toNat x2.1.2.2.2.2.2.2.1) (1:Nat)) False fun b4 =>
 (Eng.asStr (Eng.getC x2.1.2.2.2.2.1 (Int.toNat x2.1.2.2.2.2.2.2.1) (2:Nat)) False fun t5 =>
 (if Eng.roomOk (List.length x2.2.1+List.length [Eng.V.c (Value.string t5)]) (16:Nat) then
 k1 ((x2.1.1,(),x2.1.2.2.1,(),x2.1.2.2.2.2.1,x2.1.2.2.2.2.2.1,w64 (x2.1.2.2.2.2.2.2.1+1),()),x2.2.1++[Eng.V.c (Value.string t5)],())
 else
 False))))
 else
 False)
 else
 xq47 x2.2.1 (fun r6 r7 r8 r9 r10 =>
 K r6 r7 r8 r9 r10))
def Lq3v_0p:Lp:=⟨3644,[.trim 3644,.fat 5 1 480,.trim 3644],pT17,pH18,0⟩
def Yq3v (xq47:Tq47) (a0:Q15) (K:ByteArray→Bool→(List Eng.V)→Bool→Bool→Prop):Prop :=
 lp (Lq3v_0 xq47 K) ((ByteArray.mk #[],(),false,(),a0.1,(↑(List.length a0.1):Int),0,()),[],())
def Xq3v:Tq3v:=Yq3v Xq47
def Jq3v (X:Tq3v):Inst:=mkI 59 pL19 .nil pL13 pH14 X
def Iq3v:Inst:=Jq3v Xq3v
theorem Eq3v (xq47:Tq47):EqF Tryz.prog 26 gives Tryz.f59 [Jq47 xq47] [Lq3v_0p] (Jq3v (Yq3v xq47)):=fun x y K=>by kernel_rfl
theorem Iq3v_ok:InstOk Tryz.prog G.1 Iq3v:=iok (gives:=gives) [Lq3v_0p] (okCons Iq47_ok okNil) 26 follows Tryz.func59 (by kernel_rfl) (fun x=>by kernel_rfl) (Eq3v Xq47)
abbrev Tq38:Type:=Int→Int→Int→(Bool→Prop)→Prop
def Yq38 (a0:Int) (a1:Int) (a2:Int) (K:Bool→Prop):Prop :=
 (if decide (a0≥a1) then
 K (decide (a0≤a2))
 else
 K false)
def Xq38:Tq38:=Yq38
def Jq38 (X:Tq38):Inst:=mkI 125 pL20 .nil pL1 .nil X
def Iq38:Inst:=Jq38 Xq38
theorem Eq38:EqF Tryz.prog 15 gives Tryz.f125 [] [] (Jq38 (Yq38)):=fun x y K=>by kernel_rfl
theorem Iq38_ok:InstOk Tryz.prog G.1 Iq38:=iok (gives:=gives) [] okNil 15 follows Tryz.func125 (by kernel_rfl) (fun x=>by kernel_rfl) (Eq38)
abbrev Tq3m:Type:=Q21→(Bool→Prop)→Prop
def Yq3m (xq38:Tq38) (a0:Q21) (K:Bool→Prop):Prop :=
 xq38 a0.2.2.2.1 0 201 (fun r1 =>
 (if r1 then
 xq38 a0.2.2.2.2.1 0 2000 (fun r2 =>
 (if r2 then
 xq38 a0.2.2.2.2.2.1 1 64 (fun r3 =>
 (if r3 then
 xq38 a0.2.2.2.2.2.2.1 1 256 (fun r4 =>
 (if (a0.2.1 == 0) then
 (if (a0.2.2.1 == 0) then
 (if r4 then
 xq38 a0.1 1 4 (fun r5 =>
 K r5)
 else
 K false)
 else
 (if r4 then
 (if (a0.2.2.1 == a0.2.2.2.2.2.1) then
 xq38 a0.1 1 4 (fun r6 =>
 K r6)
 else
 K false)
 else
 K false))
 else
 (if (a0.2.1 == a0.2.2.2.2.2.1) then
 (if (a0.2.2.1 == 0) then
 (if r4 then
 xq38 a0.1 1 4 (fun r7 =>
 K r7)
 else
 K false)
 else
 (if r4 then
 (if (a0.2.2.1 == a0.2.2.2.2.2.1) then
 xq38 a0.1 1 4 (fun r8 =>
 K r8)
 else
 K false)
 else
 K false))
 else
 (if r4 then
 K false
 else
 K false))))
 else
 (if (a0.2.1 == 0) then
 (if (a0.2.2.1 == 0) then
 K false
 else
 K false)
 else
 (if (a0.2.1 == a0.2.2.2.2.2.1) then
 (if (a0.2.2.1 == 0) then
 K false
 else
 K false)
 else
 K false))))
 else
 (if (a0.2.1 == 0) then
 (if (a0.2.2.1 == 0) then
 K false
 else
 K false)
 else
 (if (a0.2.1 == a0.2.2.2.2.2.1) then
 (if (a0.2.2.1 == 0) then
 K false
 else
 K false)
 else
 K false))))
 else
 (if (a0.2.1 == 0) then
 (if (a0.2.2.1 == 0) then
 K false
 else
 K false)
 else
 (if (a0.2.1 == a0.2.2.2.2.2.1) then
 (if (a0.2.2.1 == 0) then
 K false
 else
 K false)
 else
 K false))))
def Xq3m:Tq3m:=Yq3m Xq38
def Jq3m (X:Tq3m):Inst:=mkI 62 pL22 .nil pL1 .nil X
def Iq3m:Inst:=Jq3m Xq3m
theorem Eq3m (xq38:Tq38):EqF Tryz.prog 54 gives Tryz.f62 [Jq38 xq38] [] (Jq3m (Yq3m xq38)):=fun x y K=>by kernel_rfl
theorem Iq3m_ok:InstOk Tryz.prog G.1 Iq3m:=iok (gives:=gives) [] (okCons Iq38_ok okNil) 54 follows Tryz.func62 (by kernel_rfl) (fun x=>by kernel_rfl) (Eq3m Xq38)
abbrev Tq32:Type:=Q15→(Q21→Bool→Prop)→Prop
def Yq32 (xq3v:Tq3v) (xq3m:Tq3m) (a0:Q15) (K:Q21→Bool→Prop):Prop :=
 xq3v a0 (fun r1 r2 r3 r4 r5 =>
 (if (!r2) then
 K (0,0,0,0,0,0,0,()) false
 else
 xq3m (a0.2.2.2.2.1,0,0,(↑(List.length a0.2.2.1):Int),(↑(List.length a0.2.1):Int),(↑(List.length a0.1):Int),(↑(ByteArray.size r1):Int),()) (fun r6 =>
 (if (!r6) then
 K (0,0,0,0,0,0,0,()) false
 else
 K (a0.2.2.2.2.1,0,0,(↑(List.length a0.2.2.1):Int),(↑(List.length a0.2.1):Int),(↑(List.length a0.1):Int),(↑(ByteArray.size r1):Int),()) true))))
def Xq32:Tq32:=Yq32 Xq3v Xq3m
def Jq32 (X:Tq32):Inst:=mkI 21 pL19 .nil pL23 .nil X
def Iq32:Inst:=Jq32 Xq32
theorem Eq32 (xq3v:Tq3v) (xq3m:Tq3m):EqF Tryz.prog 37 gives Tryz.f21 [Jq3v xq3v,Jq3m xq3m] [] (Jq32 (Yq32 xq3v xq3m)):=fun x y K=>by kernel_rfl
theorem Iq32_ok:InstOk Tryz.prog G.1 Iq32:=iok (gives:=gives) [] (okCons Iq3v_ok (okCons Iq3m_ok okNil)) 37 follows Tryz.func21 (by kernel_rfl) (fun x=>by kernel_rfl) (Eq32 Xq3v Xq3m)
abbrev Tq4w:Type:=Int→Int→(Int→Bool→Prop)→Prop
def Yq4w (a0:Int) (a1:Int) (K:Int→Bool→Prop):Prop :=
 (lt (!decide (w64 (a0 - a1) < a0) == decide (a1 > 0)) fun v2 =>
 (if v2 then
 (if (a1 != 0) then
 K 0 false
 else
 K (w64 (a0 - a1)) true)
 else
 K (w64 (a0 - a1)) true))
def Xq4w:Tq4w:=Yq4w
def Jq4w (X:Tq4w):Inst:=mkI 132 pL24 .nil pL25 .nil X
def Iq4w:Inst:=Jq4w Xq4w
theorem Eq4w:EqF Tryz.prog 21 gives Tryz.f132 [] [] (Jq4w (Yq4w)):=fun x y K=>by kernel_rfl
theorem Iq4w_ok:InstOk Tryz.prog G.1 Iq4w:=iok (gives:=gives) [] okNil 21 follows Tryz.func132 (by kernel_rfl) (fun x=>by kernel_rfl) (Eq4w)
abbrev Tq2x:Type:=(List Eng.V)→(Int→Int→Prop)→Prop
def Lq2x_0 (xq4w:Tq4w) (K:Int→Int→Prop):(Q26→Prop)→Q26→Prop:=fun k1 x2 =>
 (if decide (x2.1.2.2.2.2.2.2.1 < x2.1.2.2.2.2.2.1) then
 (if 0≤x2.1.2.2.2.2.2.2.1∧x2.1.2.2.2.2.2.2.1 < (↑(List.length x2.1.2.2.2.2.1):Int) then
 (Eng.asInt IntKind.i64 (Eng.getC x2.1.2.2.2.2.1 (Int.toNat x2.1.2.2.2.2.2.2.1) (0:Nat)) False fun n3 =>
 (Eng.asInt IntKind.i64 (Eng.getC x2.1.2.2.2.2.1 (Int.toNat x2.1.2.2.2.2.2.2.1) (1:Nat)) False fun n4 =>
 xq4w n4 x2.2.1.2.1 (fun r5 r6 =>
 (if r6 then
 (if (r5 == 0) then
 (if (x2.1.2.2.2.2.2.2.1 == w64 ((↑(List.length x2.1.1):Int) - 1)) then
 (if decide (x2.1.2.2.2.2.2.2.1 > 200) then
 K x2.1.2.2.2.2.2.2.1 8
 else
 (if decide (n3 < 0) then
 K x2.1.2.2.2.2.2.2.1 9
 else
 (if (!x2.1.2.2.2.2.2.2.1 == w64 ((↑(List.length x2.1.1):Int) - 1)) then
 (if (!r6) then
 K x2.1.2.2.2.2.2.2.1 6
 else
 (if (r5 != 1) then
 (if (r5 != (-1)) then
 K x2.1.2.2.2.2.2.2.1 6
 else
 (if decide (x2.1.2.2.2.2.2.2.1 > 0) then
 (if decide (w64 (n3 - x2.2.1.1) < 0) then
 K x2.1.2.2.2.2.2.2.1 7
 else
 k1 ((x2.1.1,x2.1.2.1,x2.1.2.2.1,(),x2.1.2.2.2.2.1,x2.1.2.2.2.2.2.1,w64 (x2.1.2.2.2.2.2.2.1+1),()),(n3,n4,()),()))
 else
 k1 ((x2.1.1,x2.1.2.1,x2.1.2.2.1,(),x2.1.2.2.2.2.1,x2.1.2.2.2.2.2.1,w64 (x2.1.2.2.2.2.2.2.1+1),()),(n3,n4,()),())))
 else
 (if decide (x2.1.2.2.2.2.2.2.1 > 0) then
 (if decide (w64 (n3 - x2.2.1.1) < 0) then
 K x2.1.2.2.2.2.2.2.1 7
 else
 k1 ((x2.1.1,x2.1.2.1,x2.1.2.2.1,(),x2.1.2.2.2.2.1,x2.1.2.2.2.2.2.1,w64 (x2.1.2.2.2.2.2.2.1+1),()),(n3,n4,()),()))
 else
 k1 ((x2.1.1,x2.1.2.1,x2.1.2.2.1,(),x2.1.2.2.2.2.1,x2.1.2.2.2.2.2.1,w64 (x2.1.2.2.2.2.2.2.1+1),()),(n3,n4,()),()))))
 else
 (if decide (x2.1.2.2.2.2.2.2.1 > 0) then
 (if decide (w64 (n3 - x2.2.1.1) < 0) then
 K x2.1.2.2.2.2.2.2.1 7
 else
 k1 ((x2.1.1,x2.1.2.1,x2.1.2.2.1,(),x2.1.2.2.2.2.1,x2.1.2.2.2.2.2.1,w64 (x2.1.2.2.2.2.2.2.1+1),()),(n3,n4,()),()))
 else
 k1 ((x2.1.1,x2.1.2.1,x2.1.2.2.1,(),x2.1.2.2.2.2.1,x2.1.2.2.2.2.2.1,w64 (x2.1.2.2.2.2.2.2.1+1),()),(n3,n4,()),())))))
 else
 (if decide (x2.1.2.2.2.2.2.2.1 > 200) then
 K x2.1.2.2.2.2.2.2.1 8
 else
 (if decide (n3 < 0) then
 K x2.1.2.2.2.2.2.2.1 9
 else
 (if (!x2.1.2.2.2.2.2.2.1 == w64 ((↑(List.length x2.1.1):Int) - 1)) then
 (if (!r6) then
 K x2.1.2.2.2.2.2.2.1 6
 else
 (if (r5 != 1) then
 (if (r5 != (-1)) then
 K x2.1.2.2.2.2.2.2.1 6
 else
 (if decide (x2.1.2.2.2.2.2.2.1 > 0) then
 (if decide (w64 (n3 - x2.2.1.1) < 2419199) then
 K x2.1.2.2.2.2.2.2.1 7
 else
 k1 ((x2.1.1,x2.1.2.1,x2.1.2.2.1,(),x2.1.2.2.2.2.1,x2.1.2.2.2.2.2.1,w64 (x2.1.2.2.2.2.2.2.1+1),()),(n3,n4,()),()))
 else
 k1 ((x2.1.1,x2.1.2.1,x2.1.2.2.1,(),x2.1.2.2.2.2.1,x2.1.2.2.2.2.2.1,w64 (x2.1.2.2.2.2.2.2.1+1),()),(n3,n4,()),())))
 else
 (if decide (x2.1.2.2.2.2.2.2.1 > 0) then
 (if decide (w64 (n3 - x2.2.1.1) < 2419199) then
 K x2.1.2.2.2.2.2.2.1 7
 else
 k1 ((x2.1.1,x2.1.2.1,x2.1.2.2.1,(),x2.1.2.2.2.2.1,x2.1.2.2.2.2.2.1,w64 (x2.1.2.2.2.2.2.2.1+1),()),(n3,n4,()),()))
 else
 k1 ((x2.1.1,x2.1.2.1,x2.1.2.2.1,(),x2.1.2.2.2.2.1,x2.1.2.2.2.2.2.1,w64 (x2.1.2.2.2.2.2.2.1+1),()),(n3,n4,()),()))))
 else
 (if decide (x2.1.2.2.2.2.2.2.1 > 0) then
 (if decide (w64 (n3 - x2.2.1.1) < 2419199) then
 K x2.1.2.2.2.2.2.2.1 7
 else
 k1 ((x2.1.1,x2.1.2.1,x2.1.2.2.1,(),x2.1.2.2.2.2.1,x2.1.2.2.2.2.2.1,w64 (x2.1.2.2.2.2.2.2.1+1),()),(n3,n4,()),()))
 else
 k1 ((x2.1.1,x2.1.2.1,x2.1.2.2.1,(),x2.1.2.2.2.2.1,x2.1.2.2.2.2.2.1,w64 (x2.1.2.2.2.2.2.2.1+1),()),(n3,n4,()),()))))))
 else
 (if decide (x2.1.2.2.2.2.2.2.1 > 200) then
 K x2.1.2.2.2.2.2.2.1 8
 else
 (if decide (n3 < 0) then
 K x2.1.2.2.2.2.2.2.1 9
 else
 (if (!r6) then
 K x2.1.2.2.2.2.2.2.1 6
 else
 (if (r5 != 1) then
 (if (r5 != (-1)) then
 K x2.1.2.2.2.2.2.2.1 6
 else
 (if decide (x2.1.2.2.2.2.2.2.1 > 0) then
 (if decide (w64 (n3 - x2.2.1.1) < 2419199) then
 K x2.1.2.2.2.2.2.2.1 7
 else
 k1 ((x2.1.1,x2.1.2.1,x2.1.2.2.1,(),x2.1.2.2.2.2.1,x2.1.2.2.2.2.2.1,w64 (x2.1.2.2.2.2.2.2.1+1),()),(n3,n4,()),()))
 else
 k1 ((x2.1.1,x2.1.2.1,x2.1.2.2.1,(),x2.1.2.2.2.2.1,x2.1.2.2.2.2.2.1,w64 (x2.1.2.2.2.2.2.2.1+1),()),(n3,n4,()),())))
 else
 (if decide (x2.1.2.2.2.2.2.2.1 > 0) then
 (if decide (w64 (n3 - x2.2.1.1) < 2419199) then
 K x2.1.2.2.2.2.2.2.1 7
 else
 k1 ((x2.1.1,x2.1.2.1,x2.1.2.2.1,(),x2.1.2.2.2.2.1,x2.1.2.2.2.2.2.1,w64 (x2.1.2.2.2.2.2.2.1+1),()),(n3,n4,()),()))
 else
 k1 ((x2.1.1,x2.1.2.1,x2.1.2.2.1,(),x2.1.2.2.2.2.1,x2.1.2.2.2.2.2.1,w64 (x2.1.2.2.2.2.2.2.1+1),()),(n3,n4,()),())))))))
 else
 (if decide (x2.1.2.2.2.2.2.2.1 > 200) then
 K x2.1.2.2.2.2.2.2.1 8
 else
 (if decide (n3 < 0) then
 K x2.1.2.2.2.2.2.2.1 9
 else
 (if (!r6) then
 K x2.1.2.2.2.2.2.2.1 6
 else
 (if (r5 != 1) then
 (if (r5 != (-1)) then
 K x2.1.2.2.2.2.2.2.1 6
 else
 (if decide (x2.1.2.2.2.2.2.2.1 > 0) then
 (if decide (w64 (n3 - x2.2.1.1) < 2419199) then
 K x2.1.2.2.2.2.2.2.1 7
 else
 k1 ((x2.1.1,x2.1.2.1,x2.1.2.2.1,(),x2.1.2.2.2.2.1,x2.1.2.2.2.2.2.1,w64 (x2.1.2.2.2.2.2.2.1+1),()),(n3,n4,()),()))
 else
 k1 ((x2.1.1,x2.1.2.1,x2.1.2.2.1,(),x2.1.2.2.2.2.1,x2.1.2.2.2.2.2.1,w64 (x2.1.2.2.2.2.2.2.1+1),()),(n3,n4,()),())))
 else
 (if decide (x2.1.2.2.2.2.2.2.1 > 0) then
 (if decide (w64 (n3 - x2.2.1.1) < 2419199) then
 K x2.1.2.2.2.2.2.2.1 7
 else
 k1 ((x2.1.1,x2.1.2.1,x2.1.2.2.1,(),x2.1.2.2.2.2.1,x2.1.2.2.2.2.2.1,w64 (x2.1.2.2.2.2.2.2.1+1),()),(n3,n4,()),()))
 else
 k1 ((x2.1.1,x2.1.2.1,x2.1.2.2.1,(),x2.1.2.2.2.2.1,x2.1.2.2.2.2.2.1,w64 (x2.1.2.2.2.2.2.2.1+1),()),(n3,n4,()),()))))))))))
 else
 False)
 else
 K (↑(List.length x2.1.1):Int) 0)
def Lq2x_0p:Lp:=⟨28701,[.trim 28701],pT27,pH28,0⟩
def Yq2x (xq4w:Tq4w) (a0:(List Eng.V)) (K:Int→Int→Prop):Prop :=
 lp (Lq2x_0 xq4w K) ((a0,0,0,(),a0,(↑(List.length a0):Int),0,()),((-2419199),0,()),())
def Xq2x:Tq2x:=Yq2x Xq4w
def Jq2x (X:Tq2x):Inst:=mkI 121 pL29 .nil pL24 .nil X
def Iq2x:Inst:=Jq2x Xq2x
theorem Eq2x (xq4w:Tq4w):EqF Tryz.prog 82 gives Tryz.f121 [Jq4w xq4w] [Lq2x_0p] (Jq2x (Yq2x xq4w)):=fun x y K=>by kernel_rfl
theorem Iq2x_ok:InstOk Tryz.prog G.1 Iq2x:=iok (gives:=gives) [Lq2x_0p] (okCons Iq4w_ok okNil) 82 follows Tryz.func121 (by kernel_rfl) (fun x=>by kernel_rfl) (Eq2x Xq4w)
abbrev Tq2r:Type:=(List Eng.V)→(Bool→Prop)→Prop
def Yq2r (xq2x:Tq2x) (a0:(List Eng.V)) (K:Bool→Prop):Prop :=
 xq2x a0 (fun r1 r2 =>
 K (r2 == 0))
def Xq2r:Tq2r:=Yq2r Xq2x
def Jq2r (X:Tq2r):Inst:=mkI 52 pL29 .nil pL1 .nil X
def Iq2r:Inst:=Jq2r Xq2r
theorem Eq2r (xq2x:Tq2x):EqF Tryz.prog 12 gives Tryz.f52 [Jq2x xq2x] [] (Jq2r (Yq2r xq2x)):=fun x y K=>by kernel_rfl
theorem Iq2r_ok:InstOk Tryz.prog G.1 Iq2r:=iok (gives:=gives) [] (okCons Iq2x_ok okNil) 12 follows Tryz.func52 (by kernel_rfl) (fun x=>by kernel_rfl) (Eq2r Xq2x)
abbrev Tq2u:Type:=(List Eng.V)→((List Eng.V)→Bool→Bool→Prop)→Prop
def Yq2u (a0:(List Eng.V)) (K:(List Eng.V)→Bool→Bool→Prop):Prop :=
 (if (w64 ((↑(List.length a0):Int) - 1) == 0) then
 (if (0 :Int)≤0∧0 < (↑(List.length a0):Int) then
 (Eng.asInt IntKind.i64 (Eng.getC a0 (0:Nat) (1:Nat)) False fun n1 =>
 (if (n1 == 0) then
 (if (n1 == 0) then
 (if 0≤w64 ((↑(List.length a0):Int) - 1)∧w64 ((↑(List.length a0):Int) - 1)≤(↑(List.length a0):Int) then
 (if (0 :Int)≤0∧0≤w64 ((↑(List.length a0):Int) - 1) then
 K (Eng.cutL a0 (0:Nat) (Int.toNat (w64 ((↑(List.length a0):Int) - 1)) - (0:Nat))) false true
 else
 False)
 else
 False)
 else
 K a0 false true)
 else
 (if decide (w64 ((↑(List.length a0):Int) - 1) > 0) then
 (if 0≤w64 ((↑(List.length a0):Int) - 1)∧w64 ((↑(List.length a0):Int) - 1) < (↑(List.length a0):Int) then
 (Eng.asInt IntKind.i64 (Eng.getC a0 (Int.toNat (w64 ((↑(List.length a0):Int) - 1))) (1:Nat)) False fun n2 =>
 (lt (w64 (w64 ((↑(List.length a0):Int) - 1) - 1)) fun v3 =>
 (if 0≤v3∧v3 < (↑(List.length a0):Int) then
 (Eng.asInt IntKind.i64 (Eng.getC a0 (Int.toNat v3) (1:Nat)) False fun n4 =>
 (if (n2 == n4) then
 (if 0≤w64 ((↑(List.length a0):Int) - 1)∧w64 ((↑(List.length a0):Int) - 1)≤(↑(List.length a0):Int) then
 (if (0 :Int)≤0∧0≤w64 ((↑(List.length a0):Int) - 1) then
 K (Eng.cutL a0 (0:Nat) (Int.toNat (w64 ((↑(List.length a0):Int) - 1)) - (0:Nat))) false true
 else
 False)
 else
 False)
 else
 K a0 false true))
 else
 False)))
 else
 False)
 else
 K a0 false true)))
 else
 False)
 else
 (if decide (w64 ((↑(List.length a0):Int) - 1) > 0) then
 (if 0≤w64 ((↑(List.length a0):Int) - 1)∧w64 ((↑(List.length a0):Int) - 1) < (↑(List.length a0):Int) then
 (Eng.asInt IntKind.i64 (Eng.getC a0 (Int.toNat (w64 ((↑(List.length a0):Int) - 1))) (1:Nat)) False fun n5 =>
 (lt (w64 (w64 ((↑(List.length a0):Int) - 1) - 1)) fun v6 =>
 (if 0≤v6∧v6 < (↑(List.length a0):Int) then
 (Eng.asInt IntKind.i64 (Eng.getC a0 (Int.toNat v6) (1:Nat)) False fun n7 =>
 (if (n5 == n7) then
 (if 0≤w64 ((↑(List.length a0):Int) - 1)∧w64 ((↑(List.length a0):Int) - 1)≤(↑(List.length a0):Int) then
 (if (0 :Int)≤0∧0≤w64 ((↑(List.length a0):Int) - 1) then
 K (Eng.cutL a0 (0:Nat) (Int.toNat (w64 ((↑(List.length a0):Int) - 1)) - (0:Nat))) false true
 else
 False)
 else
 False)
 else
 K a0 false true))
 else
 False)))
 else
 False)
 else
 K a0 false true))
def Xq2u:Tq2u:=Yq2u
def Jq2u (X:Tq2u):Inst:=mkI 122 pL29 .nil pL30 pH31 X
def Iq2u:Inst:=Jq2u Xq2u
theorem Eq2u:EqF Tryz.prog 37 gives Tryz.f122 [] [] (Jq2u (Yq2u)):=fun x y K=>by kernel_rfl
theorem Iq2u_ok:InstOk Tryz.prog G.1 Iq2u:=iok (gives:=gives) [] okNil 37 follows Tryz.func122 (by kernel_rfl) (fun x=>by kernel_rfl) (Eq2u)
abbrev Tq2m:Type:=(List Eng.V)→(Int→Bool→Prop)→Prop
def Yq2m (xq2u:Tq2u) (a0:(List Eng.V)) (K:Int→Bool→Prop):Prop :=
 xq2u a0 (fun r1 r2 r3 =>
 (if decide ((↑(List.length r1):Int) < (↑(List.length a0):Int)) then
 (if 0≤(↑(List.length r1):Int)∧(↑(List.length r1):Int) < (↑(List.length a0):Int) then
 (Eng.asInt IntKind.i64 (Eng.getC a0 (Int.toNat (↑(List.length r1):Int)) (0:Nat)) False fun n4 =>
 K n4 true)
 else
 False)
 else
 K 0 false))
def Xq2m:Tq2m:=Yq2m Xq2u
def Jq2m (X:Tq2m):Inst:=mkI 53 pL29 .nil pL25 .nil X
def Iq2m:Inst:=Jq2m Xq2m
theorem Eq2m (xq2u:Tq2u):EqF Tryz.prog 17 gives Tryz.f53 [Jq2u xq2u] [] (Jq2m (Yq2m xq2u)):=fun x y K=>by kernel_rfl
theorem Iq2m_ok:InstOk Tryz.prog G.1 Iq2m:=iok (gives:=gives) [] (okCons Iq2u_ok okNil) 17 follows Tryz.func53 (by kernel_rfl) (fun x=>by kernel_rfl) (Eq2m Xq2u)
abbrev Tq2q:Type:=Int→Q32→(Bool→Prop)→Prop
def Yq2q (a0:Int) (a1:Q32) (K:Bool→Prop):Prop :=
 (if decide (a1.1≥(-89999)) then
 K (decide (a1.1≤93599))
 else
 K false)
def Xq2q:Tq2q:=Yq2q
def Jq2q (X:Tq2q):Inst:=mkI 55 pL33 .nil pL1 .nil X
def Iq2q:Inst:=Jq2q Xq2q
theorem Eq2q:EqF Tryz.prog 13 gives Tryz.f55 [] [] (Jq2q (Yq2q)):=fun x y K=>by kernel_rfl
theorem Iq2q_ok:InstOk Tryz.prog G.1 Iq2q:=iok (gives:=gives) [] okNil 13 follows Tryz.func55 (by kernel_rfl) (fun x=>by kernel_rfl) (Eq2q)
abbrev Tq0c:Type:=(List Eng.V)→(Bool→Prop)→Prop
def Lq0c_0 (xq2q:Tq2q) (K:Bool→Prop):(Q34→Prop)→Q34→Prop:=fun k1 x2 =>
 (if decide (x2.1.2.2.2.2.1 < x2.1.2.2.2.1) then
 (if 0≤x2.1.2.2.2.2.1∧x2.1.2.2.2.2.1 < (↑(List.length x2.1.2.2.1):Int) then
 (Eng.asInt IntKind.i64 (Eng.getC x2.1.2.2.1 (Int.toNat x2.1.2.2.2.2.1) (0:Nat)) False fun n3 =>
 (Eng.asBool (Eng.getC x2.1.2.2.1 (Int.toNat x2.1.2.2.2.2.1) (1:Nat)) False fun b4 =>
 (Eng.asStr (Eng.getC x2.1.2.2.1 (Int.toNat x2.1.2.2.2.2.1) (2:Nat)) False fun t5 =>
 xq2q x2.1.2.2.2.2.1 (n3,b4,t5,()) (fun r6 =>
 (if (!r6) then
 K false
 else
 k1 ((((),()),x2.1.2.1,x2.1.2.2.1,x2.1.2.2.2.1,w64 (x2.1.2.2.2.2.1+1),()),()))))))
 else
 False)
 else
 K true)
def Lq0c_0p:Lp:=⟨914,[.trim 914],pT35,.nil,0⟩
def Yq0c (xq2q:Tq2q) (a0:(List Eng.V)) (K:Bool→Prop):Prop :=
 lp (Lq0c_0 xq2q K) ((((),()),false,a0,(↑(List.length a0):Int),0,()),())
def Xq0c:Tq0c:=Yq0c Xq2q
def Jq0c (X:Tq0c):Inst:=mkI 54 pL36 .nil pL1 .nil X
def Iq0c:Inst:=Jq0c Xq0c
theorem Eq0c (xq2q:Tq2q):EqF Tryz.prog 20 gives Tryz.f54 [Jq2q xq2q] [Lq0c_0p] (Jq0c (Yq0c xq2q)):=fun x y K=>by kernel_rfl
theorem Iq0c_ok:InstOk Tryz.prog G.1 Iq0c:=iok (gives:=gives) [Lq0c_0p] (okCons Iq2q_ok okNil) 20 follows Tryz.func54 (by kernel_rfl) (fun x=>by kernel_rfl) (Eq0c Xq2q)
abbrev Tq30:Type:=Int→Q37→(List Eng.V)→(List Eng.V)→(List Eng.V)→ByteArray→Int→(Bool→ByteArray→Int→(List Eng.V)→Bool→Bool→(List Eng.V)→Bool→Bool→(List Eng.V)→Bool→Bool→Prop)→Prop
def Yq30 (a0:Int) (a1:Q37) (a2:(List Eng.V)) (a3:(List Eng.V)) (a4:(List Eng.V)) (a5:ByteArray) (a6:Int) (K:Bool→ByteArray→Int→(List Eng.V)→Bool→Bool→(List Eng.V)→Bool→Bool→(List Eng.V)→Bool→Bool→Prop):Prop :=
 (if decide (a1.2.1≥0) then
 (if decide (a1.2.1 < (↑(List.length a2):Int)) then
 (if (a0 == 0) then
 K true a5 a6 a2 false true a3 false true a4 false true
 else
 (if 0≤w64 (a0 - 1)∧w64 (a0 - 1) < (↑(List.length a3):Int) then
 (Eng.asInt IntKind.i64 (Eng.getC a3 (Int.toNat (w64 (a0 - 1))) (0:Nat)) False fun n7 =>
 K (decide (a1.1 > n7)) a5 a6 a2 false true a3 false true a4 false true)
 else
 False))
 else
 K false a5 a6 a2 false true a3 false true a4 false true)
 else
 K false a5 a6 a2 false true a3 false true a4 false true)
def Xq30:Tq30:=Yq30
def Jq30 (X:Tq30):Inst:=mkI 57 pL38 pH39 pL1 pH40 X
def Iq30:Inst:=Jq30 Xq30
theorem Eq30:EqF Tryz.prog 33 gives Tryz.f57 [] [] (Jq30 (Yq30)):=fun x y K=>by kernel_rfl
theorem Iq30_ok:InstOk Tryz.prog G.1 Iq30:=iok (gives:=gives) [] okNil 33 follows Tryz.func57 (by kernel_rfl) (fun x=>by kernel_rfl) (Eq30)
abbrev Tq0a:Type:=(List Eng.V)→(List Eng.V)→(List Eng.V)→(List Eng.V)→ByteArray→Int→(Bool→ByteArray→Int→(List Eng.V)→Bool→Bool→(List Eng.V)→Bool→Bool→(List Eng.V)→Bool→Bool→Prop)→Prop
def Lq0a_0 (xq30:Tq30) (K:Bool→ByteArray→Int→(List Eng.V)→Bool→Bool→(List Eng.V)→Bool→Bool→(List Eng.V)→Bool→Bool→Prop) (a1:(List Eng.V)) (a2:(List Eng.V)) (a3:(List Eng.V)) (a4:ByteArray) (a5:Int):(Q41→Prop)→Q41→Prop:=fun k6 x7 =>
 (if decide (x7.1.2.2.2.2.1 < x7.1.2.2.2.1) then
 (if 0≤x7.1.2.2.2.2.1∧x7.1.2.2.2.2.1 < (↑(List.length x7.1.2.2.1):Int) then
 (Eng.asInt IntKind.i64 (Eng.getC x7.1.2.2.1 (Int.toNat x7.1.2.2.2.2.1) (0:Nat)) False fun n8 =>
 (Eng.asInt IntKind.i64 (Eng.getC x7.1.2.2.1 (Int.toNat x7.1.2.2.2.2.1) (1:Nat)) False fun n9 =>
 xq30 x7.1.2.2.2.2.1 (n8,n9,()) x7.2.1.1 x7.2.1.2.1 x7.2.1.2.2.1 x7.2.1.2.2.2.1 x7.2.1.2.2.2.2.1 (fun r10 r11 r12 r13 r14 r15 r16 r17 r18 r19 r20 r21 =>
 (if (!r10) then
 K false r11 r12 r13 r14 r15 r16 r17 r18 r19 r20 r21
 else
 k6 ((((),(),()),x7.1.2.1,x7.1.2.2.1,x7.1.2.2.2.1,w64 (x7.1.2.2.2.2.1+1),()),(r13,r16,r19,r11,r12,()),())))))
 else
 False)
 else
 K true x7.2.1.2.2.2.1 x7.2.1.2.2.2.2.1 x7.2.1.1 false true x7.2.1.2.1 false true x7.2.1.2.2.1 false true)
def Lq0a_0p:Lp:=⟨914,[.trim 914,.thin 336,.trim 914,.thin 337,.trim 914,.thin 338,.trim 914],pT42,pH39,0⟩
def Yq0a (xq30:Tq30) (a0:(List Eng.V)) (a1:(List Eng.V)) (a2:(List Eng.V)) (a3:(List Eng.V)) (a4:ByteArray) (a5:Int) (K:Bool→ByteArray→Int→(List Eng.V)→Bool→Bool→(List Eng.V)→Bool→Bool→(List Eng.V)→Bool→Bool→Prop):Prop :=
 lp (Lq0a_0 xq30 K a1 a2 a3 a4 a5) ((((),(),()),false,a0,(↑(List.length a0):Int),0,()),(a1,a2,a3,a4,a5,()),())
def Xq0a:Tq0a:=Yq0a Xq30
def Jq0a (X:Tq0a):Inst:=mkI 56 pL43 pH39 pL1 pH40 X
def Iq0a:Inst:=Jq0a Xq0a
theorem Eq0a (xq30:Tq30):EqF Tryz.prog 20 gives Tryz.f56 [Jq30 xq30] [Lq0a_0p] (Jq0a (Yq0a xq30)):=fun x y K=>by kernel_rfl
theorem Iq0a_ok:InstOk Tryz.prog G.1 Iq0a:=iok (gives:=gives) [Lq0a_0p] (okCons Iq30_ok okNil) 20 follows Tryz.func56 (by kernel_rfl) (fun x=>by kernel_rfl) (Eq0a Xq30)
abbrev Tq4c:Type:=Q32→Bool→(Bool→Prop)→Prop
def Yq4c (xq3r:Tq3r) (a0:Q32) (a1:Bool) (K:Bool→Prop):Prop :=
 xq3r a0.2.2.1 (fun r2 =>
 (if r2 then
 (if (a0.2.1 == a1) then
 (if decide (a0.1≥(-89999)) then
 K (decide (a0.1≤89999))
 else
 K false)
 else
 K false)
 else
 K false))
def Xq4c:Tq4c:=Yq4c Xq3r
def Jq4c (X:Tq4c):Inst:=mkI 212 pL44 .nil pL1 .nil X
def Iq4c:Inst:=Jq4c Xq4c
theorem Eq4c (xq3r:Tq3r):EqF Tryz.prog 24 gives Tryz.f212 [Jq3r xq3r] [] (Jq4c (Yq4c xq3r)):=fun x y K=>by kernel_rfl
theorem Iq4c_ok:InstOk Tryz.prog G.1 Iq4c:=iok (gives:=gives) [] (okCons Iq3r_ok okNil) 24 follows Tryz.func212 (by kernel_rfl) (fun x=>by kernel_rfl) (Eq4c Xq3r)
abbrev Tq3e:Type:=Int→Int→Int→(Bool→Prop)→Prop
def Yq3e (a0:Int) (a1:Int) (a2:Int) (K:Bool→Prop):Prop :=
 (if decide (a0≥a1) then
 K (decide (a0≤a2))
 else
 K false)
def Xq3e:Tq3e:=Yq3e
def Jq3e (X:Tq3e):Inst:=mkI 238 pL20 .nil pL1 .nil X
def Iq3e:Inst:=Jq3e Xq3e
theorem Eq3e:EqF Tryz.prog 15 gives Tryz.f238 [] [] (Jq3e (Yq3e)):=fun x y K=>by kernel_rfl
theorem Iq3e_ok:InstOk Tryz.prog G.1 Iq3e:=iok (gives:=gives) [] okNil 15 follows Tryz.func238 (by kernel_rfl) (fun x=>by kernel_rfl) (Eq3e)
abbrev Tq44:Type:=Q45→(Bool→Prop)→Prop
def Yq44 (xq3e:Tq3e) (a0:Q45) (K:Bool→Prop):Prop :=
 xq3e a0.2.2.2.2.1 (-604799) 604799 (fun r1 =>
 (if (a0.1 == 0) then
 (if r1 then
 xq3e a0.2.1 1 12 (fun r2 =>
 (if r2 then
 xq3e a0.2.2.1 1 5 (fun r3 =>
 (if r3 then
 xq3e a0.2.2.2.1 0 6 (fun r4 =>
 K r4)
 else
 K false))
 else
 K false))
 else
 K false)
 else
 (if (a0.1 == 1) then
 (if r1 then
 (if decide (a0.2.1 > 0) then
 xq3e a0.2.1 0 365 (fun r5 =>
 (if r5 then
 (if (a0.2.2.1 == 0) then
 K (a0.2.2.2.1 == 0)
 else
 K false)
 else
 K false))
 else
 K false)
 else
 K false)
 else
 (if (a0.1 == 2) then
 (if r1 then
 xq3e a0.2.1 0 365 (fun r6 =>
 (if r6 then
 (if (a0.2.2.1 == 0) then
 K (a0.2.2.2.1 == 0)
 else
 K false)
 else
 K false))
 else
 K false)
 else
 K false))))
def Xq44:Tq44:=Yq44 Xq3e
def Jq44 (X:Tq44):Inst:=mkI 213 pL46 .nil pL1 .nil X
def Iq44:Inst:=Jq44 Xq44
theorem Eq44 (xq3e:Tq3e):EqF Tryz.prog 53 gives Tryz.f213 [Jq3e xq3e] [] (Jq44 (Yq44 xq3e)):=fun x y K=>by kernel_rfl
theorem Iq44_ok:InstOk Tryz.prog G.1 Iq44:=iok (gives:=gives) [] (okCons Iq3e_ok okNil) 53 follows Tryz.func213 (by kernel_rfl) (fun x=>by kernel_rfl) (Eq44 Xq3e)
abbrev Tq43:Type:=Q47→(Bool→Prop)→Prop
def Yq43 (xq4c:Tq4c) (xq44:Tq44) (a0:Q47) (K:Bool→Prop):Prop :=
 xq4c (a0.1,a0.2.1,a0.2.2.1,()) false (fun r1 =>
 (if (!r1) then
 K false
 else
 (if a0.2.2.2.2.2.2.1 then
 xq4c (a0.2.2.2.1,a0.2.2.2.2.1,a0.2.2.2.2.2.1,()) true (fun r2 =>
 (if r2 then
 xq44 (a0.2.2.2.2.2.2.2.1,a0.2.2.2.2.2.2.2.2.1,a0.2.2.2.2.2.2.2.2.2.1,a0.2.2.2.2.2.2.2.2.2.2.1,a0.2.2.2.2.2.2.2.2.2.2.2.1,()) (fun r3 =>
 (if r3 then
 xq44 a0.2.2.2.2.2.2.2.2.2.2.2.2 (fun r4 =>
 K r4)
 else
 K false))
 else
 K false))
 else
 (lt (a0.1 == a0.1 && (a0.2.1 == a0.2.1 && (ByteArray.toList a0.2.2.1 == ByteArray.toList a0.2.2.1 && true)) && (a0.2.2.2.1 == 0 && (a0.2.2.2.2.1 == false && (ByteArray.toList a0.2.2.2.2.2.1 == ByteArray.toList (ByteArray.mk #[]) && true)) && (a0.2.2.2.2.2.2.1 == false && (a0.2.2.2.2.2.2.2.1 == 0 && (a0.2.2.2.2.2.2.2.2.1 == 0 && (a0.2.2.2.2.2.2.2.2.2.1 == 0 && (a0.2.2.2.2.2.2.2.2.2.2.1 == 0 && (a0.2.2.2.2.2.2.2.2.2.2.2.1 == 0 && true)))) && (a0.2.2.2.2.2.2.2.2.2.2.2.2.1 == 0 && (a0.2.2.2.2.2.2.2.2.2.2.2.2.2.1 == 0 && (a0.2.2.2.2.2.2.2.2.2.2.2.2.2.2.1 == 0 && (a0.2.2.2.2.2.2.2.2.2.2.2.2.2.2.2.1 == 0 && (a0.2.2.2.2.2.2.2.2.2.2.2.2.2.2.2.2.1 == 0 && true)))) && true))))) fun v5 =>
 K v5))))
def Xq43:Tq43:=Yq43 Xq4c Xq44
def Jq43 (X:Tq43):Inst:=mkI 177 pL48 .nil pL1 .nil X
def Iq43:Inst:=Jq43 Xq43
theorem Eq43 (xq4c:Tq4c) (xq44:Tq44):EqF Tryz.prog 27 gives Tryz.f177 [Jq4c xq4c,Jq44 xq44] [] (Jq43 (Yq43 xq4c xq44)):=fun x y K=>by kernel_rfl
theorem Iq43_ok:InstOk Tryz.prog G.1 Iq43:=iok (gives:=gives) [] (okCons Iq4c_ok (okCons Iq44_ok okNil)) 27 follows Tryz.func177 (by kernel_rfl) (fun x=>by kernel_rfl) (Eq43 Xq4c Xq44)
abbrev Tq03:Type:=ByteArray→ByteArray→(Bool→Prop)→Prop
def Yq03 (a0:ByteArray) (a1:ByteArray) (K:Bool→Prop):Prop :=
 (if decide ((↑(ByteArray.size a0):Int)≥(↑(ByteArray.size a1):Int)) then
 (if 0≤(↑(ByteArray.size a1):Int)∧(↑(ByteArray.size a1):Int)≤(↑(ByteArray.size a0):Int) then
 K (ByteArray.toList (ByteArray.extract a0 (0:Nat) (Int.toNat (↑(ByteArray.size a1):Int))) == ByteArray.toList a1)
 else
 False)
 else
 K false)
def Xq03:Tq03:=Yq03
def Jq03 (X:Tq03):Inst:=mkI 228 pL49 .nil pL1 .nil X
def Iq03:Inst:=Jq03 Xq03
theorem Eq03:EqF Tryz.prog 18 gives Tryz.f228 [] [] (Jq03 (Yq03)):=fun x y K=>by kernel_rfl
theorem Iq03_ok:InstOk Tryz.prog G.1 Iq03:=iok (gives:=gives) [] okNil 18 follows Tryz.func228 (by kernel_rfl) (fun x=>by kernel_rfl) (Eq03)
abbrev Tq02:Type:=ByteArray→ByteArray→(ByteArray→Bool→Prop)→Prop
def Yq02 (xq03:Tq03) (a0:ByteArray) (a1:ByteArray) (K:ByteArray→Bool→Prop):Prop :=
 xq03 a0 a1 (fun r2 =>
 (if (!r2) then
 K a0 false
 else
 (if 0≤(↑(ByteArray.size a0):Int)∧(↑(ByteArray.size a0):Int)≤(↑(ByteArray.size a0):Int) then
 (if 0≤(↑(ByteArray.size a1):Int)∧(↑(ByteArray.size a1):Int)≤(↑(ByteArray.size a0):Int) then
 K (ByteArray.extract a0 (Int.toNat (↑(ByteArray.size a1):Int)) (Int.toNat (↑(ByteArray.size a0):Int))) true
 else
 False)
 else
 False)))
def Xq02:Tq02:=Yq02 Xq03
def Jq02 (X:Tq02):Inst:=mkI 206 pL49 .nil pL50 .nil X
def Iq02:Inst:=Jq02 Xq02
theorem Eq02 (xq03:Tq03):EqF Tryz.prog 15 gives Tryz.f206 [Jq03 xq03] [] (Jq02 (Yq02 xq03)):=fun x y K=>by kernel_rfl
theorem Iq02_ok:InstOk Tryz.prog G.1 Iq02:=iok (gives:=gives) [] (okCons Iq03_ok okNil) 15 follows Tryz.func206 (by kernel_rfl) (fun x=>by kernel_rfl) (Eq02 Xq03)
abbrev Tq0r:Type:=ByteArray→ByteArray→(ByteArray→Bool→Prop)→Prop
def Yq0r (xq02:Tq02) (a0:ByteArray) (a1:ByteArray) (K:ByteArray→Bool→Prop):Prop :=
 xq02 a0 a1 (fun r2 r3 =>
 K r2 r3)
def Xq0r:Tq0r:=Yq0r Xq02
def Jq0r (X:Tq0r):Inst:=mkI 165 pL49 .nil pL50 .nil X
def Iq0r:Inst:=Jq0r Xq0r
theorem Eq0r (xq02:Tq02):EqF Tryz.prog 11 gives Tryz.f165 [Jq02 xq02] [] (Jq0r (Yq0r xq02)):=fun x y K=>by kernel_rfl
theorem Iq0r_ok:InstOk Tryz.prog G.1 Iq0r:=iok (gives:=gives) [] (okCons Iq02_ok okNil) 11 follows Tryz.func165 (by kernel_rfl) (fun x=>by kernel_rfl) (Eq0r Xq02)
abbrev Tq04:Type:=ByteArray→ByteArray→(Int→Prop)→Prop
def Yq04 (xq4j:Tq4j) (a0:ByteArray) (a1:ByteArray) (K:Int→Prop):Prop :=
 (if ((↑(ByteArray.size a1):Int) == 0) then
 K 0
 else
 (if (ByteArray.toList a1 == ByteArray.toList a0) then
 K 0
 else
 (if ((↑(ByteArray.size a1):Int) == 1) then
 (if (0 :Int)≤0∧0 < (↑(ByteArray.size a1):Int) then
 xq4j a0 (Eng.bAt a1 (0:Nat)) (fun r2 =>
 K r2)
 else
 False)
 else
 (if decide ((↑(ByteArray.size a1):Int)≥(↑(ByteArray.size a0):Int)) then
 K (-1)
 else
 False))))
def Xq04:Tq04:=Yq04 Xq4j
def Jq04 (X:Tq04):Inst:=mkI 189 pL49 .nil pL6 .nil X
def Iq04:Inst:=Jq04 Xq04
theorem Eq04 (xq4j:Tq4j):EqF Tryz.prog 143 gives Tryz.f189 [Jq4j xq4j] [] (Jq04 (Yq04 xq4j)):=fun x y K=>by kernel_rfl
theorem Iq04_ok:InstOk Tryz.prog G.1 Iq04:=iok (gives:=gives) [] (okCons Iq4j_ok okNil) 143 follows Tryz.func189 (by kernel_rfl) (fun x=>by kernel_rfl) (Eq04 Xq4j)
abbrev Tq05:Type:=ByteArray→ByteArray→(ByteArray→ByteArray→Bool→Prop)→Prop
def Yq05 (xq04:Tq04) (a0:ByteArray) (a1:ByteArray) (K:ByteArray→ByteArray→Bool→Prop):Prop :=
 xq04 a0 a1 (fun r2 =>
 (if decide (r2≥0) then
 (if 0≤r2∧r2≤(↑(ByteArray.size a0):Int) then
 (if (0 :Int)≤0∧0≤r2 then
 (if 0≤(↑(ByteArray.size a0):Int)∧(↑(ByteArray.size a0):Int)≤(↑(ByteArray.size a0):Int) then
 (if 0≤w64 (r2+(↑(ByteArray.size a1):Int))∧w64 (r2+(↑(ByteArray.size a1):Int))≤(↑(ByteArray.size a0):Int) then
 (lt (ByteArray.extract a0 (Int.toNat (w64 (r2+(↑(ByteArray.size a1):Int)))) (Int.toNat (↑(ByteArray.size a0):Int))) fun v3 =>
 K (ByteArray.extract a0 (0:Nat) (Int.toNat r2)) v3 true)
 else
 False)
 else
 False)
 else
 False)
 else
 False)
 else
 K a0 (ByteArray.mk #[]) false))
def Xq05:Tq05:=Yq05 Xq04
def Jq05 (X:Tq05):Inst:=mkI 150 pL49 .nil pL51 .nil X
def Iq05:Inst:=Jq05 Xq05
theorem Eq05 (xq04:Tq04):EqF Tryz.prog 23 gives Tryz.f150 [Jq04 xq04] [] (Jq05 (Yq05 xq04)):=fun x y K=>by kernel_rfl
theorem Iq05_ok:InstOk Tryz.prog G.1 Iq05:=iok (gives:=gives) [] (okCons Iq04_ok okNil) 23 follows Tryz.func150 (by kernel_rfl) (fun x=>by kernel_rfl) (Eq05 Xq04)
abbrev Tq3c:Type:=ByteArray→ByteArray→(ByteArray→ByteArray→Bool→Prop)→Prop
def Yq3c (xq05:Tq05) (a0:ByteArray) (a1:ByteArray) (K:ByteArray→ByteArray→Bool→Prop):Prop :=
 xq05 a0 a1 (fun r2 r3 r4 =>
 K r2 r3 r4)
def Xq3c:Tq3c:=Yq3c Xq05
def Jq3c (X:Tq3c):Inst:=mkI 89 pL49 .nil pL51 .nil X
def Iq3c:Inst:=Jq3c Xq3c
theorem Eq3c (xq05:Tq05):EqF Tryz.prog 13 gives Tryz.f89 [Jq05 xq05] [] (Jq3c (Yq3c xq05)):=fun x y K=>by kernel_rfl
theorem Iq3c_ok:InstOk Tryz.prog G.1 Iq3c:=iok (gives:=gives) [] (okCons Iq05_ok okNil) 13 follows Tryz.func89 (by kernel_rfl) (fun x=>by kernel_rfl) (Eq3c Xq05)
abbrev Tq3p:Type:=Int→(Bool→Prop)→Prop
def Yq3p (a0:Int) (K:Bool→Prop):Prop :=
 (if decide (a0≥97) then
 (if decide (a0≤122) then
 K true
 else
 (if decide (a0≥65) then
 K (decide (a0≤90))
 else
 K false))
 else
 (if decide (a0≥65) then
 K (decide (a0≤90))
 else
 K false))
def Xq3p:Tq3p:=Yq3p
def Jq3p (X:Tq3p):Inst:=mkI 231 pL0 .nil pL1 .nil X
def Iq3p:Inst:=Jq3p Xq3p
theorem Eq3p:EqF Tryz.prog 17 gives Tryz.f231 [] [] (Jq3p (Yq3p)):=fun x y K=>by kernel_rfl
theorem Iq3p_ok:InstOk Tryz.prog G.1 Iq3p:=iok (gives:=gives) [] okNil 17 follows Tryz.func231 (by kernel_rfl) (fun x=>by kernel_rfl) (Eq3p)
abbrev Tq0g:Type:=Int→(Bool→Prop)→Prop
def Yq0g (xq3p:Tq3p) (a0:Int) (K:Bool→Prop):Prop :=
 xq3p a0 (fun r1 =>
 K !r1)
def Xq0g:Tq0g:=Yq0g Xq3p
def Jq0g (X:Tq0g):Inst:=mkI 230 pL0 .nil pL1 .nil X
def Iq0g:Inst:=Jq0g Xq0g
theorem Eq0g (xq3p:Tq3p):EqF Tryz.prog 6 gives Tryz.f230 [Jq3p xq3p] [] (Jq0g (Yq0g xq3p)):=fun x y K=>by kernel_rfl
theorem Iq0g_ok:InstOk Tryz.prog G.1 Iq0g:=iok (gives:=gives) [] (okCons Iq3p_ok okNil) 6 follows Tryz.func230 (by kernel_rfl) (fun x=>by kernel_rfl) (Eq0g Xq3p)
abbrev Tq09:Type:=ByteArray→Bool→(Int→Prop)→Prop
def Lq09_0 (xq0g:Tq0g) (K:Int→Prop):(Q2→Prop)→Q2→Prop:=fun k2 x3 =>
 (if x3.2.1.2 < ByteArray.size x3.2.1.1 then
 xq0g (↑(Prod.fst (Go.Utf8.decode x3.2.1.1 x3.2.1.2)):Int) (fun r4 =>
 (if (r4 == x3.1.2.1) then
 K (↑(x3.2.1.2):Int)
 else
 k2 ((((),()),x3.1.2.1,x3.1.2.2.1,(),()),(x3.2.1.1,x3.2.1.2+Prod.snd (Go.Utf8.decode x3.2.1.1 x3.2.1.2)),())))
 else
 K (-1))
def Lq09_0p:Lp:=⟨1094,[.trim 1094],pT52,pH4,0⟩
def Yq09 (xq0g:Tq0g) (a0:ByteArray) (a1:Bool) (K:Int→Prop):Prop :=
 lp (Lq09_0 xq0g K) ((((),()),a1,0,(),()),(a0,(0:Nat)),())
def Xq09:Tq09:=Yq09 Xq0g
def Jq09 (X:Tq09):Inst:=mkI 217 pL53 .nil pL6 .nil X
def Iq09:Inst:=Jq09 Xq09
theorem Eq09 (xq0g:Tq0g):EqF Tryz.prog 21 gives Tryz.f217 [Jq0g xq0g] [Lq09_0p] (Jq09 (Yq09 xq0g)):=fun x y K=>by kernel_rfl
theorem Iq09_ok:InstOk Tryz.prog G.1 Iq09:=iok (gives:=gives) [Lq09_0p] (okCons Iq0g_ok okNil) 21 follows Tryz.func217 (by kernel_rfl) (fun x=>by kernel_rfl) (Eq09 Xq0g)
abbrev Tq08:Type:=ByteArray→(Int→Prop)→Prop
def Yq08 (xq09:Tq09) (a0:ByteArray) (K:Int→Prop):Prop :=
 xq09 a0 true (fun r1 =>
 K r1)
def Xq08:Tq08:=Yq08 Xq09
def Jq08 (X:Tq08):Inst:=mkI 187 pL54 .nil pL6 .nil X
def Iq08:Inst:=Jq08 Xq08
theorem Eq08 (xq09:Tq09):EqF Tryz.prog 8 gives Tryz.f187 [Jq09 xq09] [] (Jq08 (Yq08 xq09)):=fun x y K=>by kernel_rfl
theorem Iq08_ok:InstOk Tryz.prog G.1 Iq08:=iok (gives:=gives) [] (okCons Iq09_ok okNil) 8 follows Tryz.func187 (by kernel_rfl) (fun x=>by kernel_rfl) (Eq08 Xq09)
abbrev Tq12:Type:=ByteArray→Int→Bool→ByteArray→Int→Bool→ByteArray→Bool→Int→Int→Int→Int→Int→Int→Int→Int→Int→Int→(ByteArray→Bool→ByteArray→Int→Bool→ByteArray→Int→Bool→ByteArray→Bool→Int→Int→Int→Int→Int→Int→Int→Int→Int→Int→Prop)→Prop
def Yq12 (xq0r:Tq0r) (xq3c:Tq3c) (xq3r:Tq3r) (xq08:Tq08) (a0:ByteArray) (a1:Int) (a2:Bool) (a3:ByteArray) (a4:Int) (a5:Bool) (a6:ByteArray) (a7:Bool) (a8:Int) (a9:Int) (a10:Int) (a11:Int) (a12:Int) (a13:Int) (a14:Int) (a15:Int) (a16:Int) (a17:Int) (K:ByteArray→Bool→ByteArray→Int→Bool→ByteArray→Int→Bool→ByteArray→Bool→Int→Int→Int→Int→Int→Int→Int→Int→Int→Int→Prop):Prop :=
 xq0r a0 (ByteArray.mk #[(60:UInt8)]) (fun r18 r19 =>
 (if r19 then
 xq3c r18 (ByteArray.mk #[(62:UInt8)]) (fun r20 r21 r22 =>
 (if r22 then
 xq3r r20 (fun r23 =>
 K r20 r23 r21 a1 a2 a3 a4 a5 a6 a7 a8 a9 a10 a11 a12 a13 a14 a15 a16 a17)
 else
 K r20 false r21 a1 a2 a3 a4 a5 a6 a7 a8 a9 a10 a11 a12 a13 a14 a15 a16 a17))
 else
 xq08 a0 (fun r24 =>
 (if decide (r24 < 0) then
 (if 0≤(↑(ByteArray.size a0):Int)∧(↑(ByteArray.size a0):Int)≤(↑(ByteArray.size a0):Int) then
 (if 0≤(↑(ByteArray.size a0):Int)∧(↑(ByteArray.size a0):Int)≤(↑(ByteArray.size a0):Int) then
 (if 0≤(↑(ByteArray.size a0):Int)∧(↑(ByteArray.size a0):Int)≤(↑(ByteArray.size a0):Int) then
 xq3r (ByteArray.extract a0 (0:Nat) (Int.toNat (↑(ByteArray.size a0):Int))) (fun r25 =>
 K (ByteArray.extract a0 (0:Nat) (Int.toNat (↑(ByteArray.size a0):Int))) r25 (ByteArray.extract a0 (Int.toNat (↑(ByteArray.size a0):Int)) (Int.toNat (↑(ByteArray.size a0):Int))) a1 a2 a3 a4 a5 a6 a7 a8 a9 a10 a11 a12 a13 a14 a15 a16 a17)
 else
 False)
 else
 False)
 else
 False)
 else
 (if 0≤r24∧r24≤(↑(ByteArray.size a0):Int) then
 (if (0 :Int)≤0∧0≤r24 then
 (if 0≤(↑(ByteArray.size a0):Int)∧(↑(ByteArray.size a0):Int)≤(↑(ByteArray.size a0):Int) then
 (if 0≤r24∧r24≤(↑(ByteArray.size a0):Int) then
 xq3r (ByteArray.extract a0 (0:Nat) (Int.toNat r24)) (fun r26 =>
 K (ByteArray.extract a0 (0:Nat) (Int.toNat r24)) r26 (ByteArray.extract a0 (Int.toNat r24) (Int.toNat (↑(ByteArray.size a0):Int))) a1 a2 a3 a4 a5 a6 a7 a8 a9 a10 a11 a12 a13 a14 a15 a16 a17)
 else
 False)
 else
 False)
 else
 False)
 else
 False)))))
def Xq12:Tq12:=Yq12 Xq0r Xq3c Xq3r Xq08
def Jq12 (X:Tq12):Inst:=mkI 209 pL55 pH56 pL50 pH56 X
def Iq12:Inst:=Jq12 Xq12
theorem Eq12 (xq0r:Tq0r) (xq3c:Tq3c) (xq3r:Tq3r) (xq08:Tq08):EqF Tryz.prog 61 gives Tryz.f209 [Jq0r xq0r,Jq3c xq3c,Jq3r xq3r,Jq08 xq08] [] (Jq12 (Yq12 xq0r xq3c xq3r xq08)):=fun x y K=>by kernel_rfl
theorem Iq12_ok:InstOk Tryz.prog G.1 Iq12:=iok (gives:=gives) [] (okCons Iq0r_ok (okCons Iq3c_ok (okCons Iq3r_ok (okCons Iq08_ok okNil)))) 61 follows Tryz.func209 (by kernel_rfl) (fun x=>by kernel_rfl) (Eq12 Xq0r Xq3c Xq3r Xq08)
abbrev Tq01:Type:=ByteArray→ByteArray→(ByteArray→Prop)→Prop
def Yq01 (xq03:Tq03) (a0:ByteArray) (a1:ByteArray) (K:ByteArray→Prop):Prop :=
 xq03 a0 a1 (fun r2 =>
 (if r2 then
 (if 0≤(↑(ByteArray.size a0):Int)∧(↑(ByteArray.size a0):Int)≤(↑(ByteArray.size a0):Int) then
 (if 0≤(↑(ByteArray.size a1):Int)∧(↑(ByteArray.size a1):Int)≤(↑(ByteArray.size a0):Int) then
 K (ByteArray.extract a0 (Int.toNat (↑(ByteArray.size a1):Int)) (Int.toNat (↑(ByteArray.size a0):Int)))
 else
 False)
 else
 False)
 else
 K a0))
def Xq01:Tq01:=Yq01 Xq03
def Jq01 (X:Tq01):Inst:=mkI 251 pL49 .nil pL8 .nil X
def Iq01:Inst:=Jq01 Xq01
theorem Eq01 (xq03:Tq03):EqF Tryz.prog 13 gives Tryz.f251 [Jq03 xq03] [] (Jq01 (Yq01 xq03)):=fun x y K=>by kernel_rfl
theorem Iq01_ok:InstOk Tryz.prog G.1 Iq01:=iok (gives:=gives) [] (okCons Iq03_ok okNil) 13 follows Tryz.func251 (by kernel_rfl) (fun x=>by kernel_rfl) (Eq01 Xq03)
abbrev Tq0b:Type:=ByteArray→ByteArray→(ByteArray→Prop)→Prop
def Yq0b (xq01:Tq01) (a0:ByteArray) (a1:ByteArray) (K:ByteArray→Prop):Prop :=
 xq01 a0 a1 (fun r2 =>
 K r2)
def Xq0b:Tq0b:=Yq0b Xq01
def Jq0b (X:Tq0b):Inst:=mkI 232 pL49 .nil pL8 .nil X
def Iq0b:Inst:=Jq0b Xq0b
theorem Eq0b (xq01:Tq01):EqF Tryz.prog 8 gives Tryz.f232 [Jq01 xq01] [] (Jq0b (Yq0b xq01)):=fun x y K=>by kernel_rfl
theorem Iq0b_ok:InstOk Tryz.prog G.1 Iq0b:=iok (gives:=gives) [] (okCons Iq01_ok okNil) 8 follows Tryz.func232 (by kernel_rfl) (fun x=>by kernel_rfl) (Eq0b Xq01)
abbrev Tq3g:Type:=ByteArray→(Int→Prop)→Prop
def Lq3g_0 (K:Int→Prop):(Q57→Prop)→Q57→Prop:=fun k1 x2 =>
 (if x2.2.1.2 < ByteArray.size x2.2.1.1 then
 (if decide ((↑(Prod.fst (Go.Utf8.decode x2.2.1.1 x2.2.1.2)):Int) < 48) then
 K (↑(x2.2.1.2):Int)
 else
 (if decide ((↑(Prod.fst (Go.Utf8.decode x2.2.1.1 x2.2.1.2)):Int) > 57) then
 K (↑(x2.2.1.2):Int)
 else
 k1 ((x2.1.1,x2.1.2.1,(),()),(x2.2.1.1,x2.2.1.2+Prod.snd (Go.Utf8.decode x2.2.1.1 x2.2.1.2)),())))
 else
 K (↑(ByteArray.size x2.1.1):Int))
def Lq3g_0p:Lp:=⟨69,[.trim 69],pT58,pH59,0⟩
def Yq3g (a0:ByteArray) (K:Int→Prop):Prop :=
 lp (Lq3g_0 K) ((a0,0,(),()),(a0,(0:Nat)),())
def Xq3g:Tq3g:=Yq3g
def Jq3g (X:Tq3g):Inst:=mkI 233 pL8 .nil pL6 .nil X
def Iq3g:Inst:=Jq3g Xq3g
theorem Eq3g:EqF Tryz.prog 20 gives Tryz.f233 [] [Lq3g_0p] (Jq3g (Yq3g)):=fun x y K=>by kernel_rfl
theorem Iq3g_ok:InstOk Tryz.prog G.1 Iq3g:=iok (gives:=gives) [Lq3g_0p] okNil 20 follows Tryz.func233 (by kernel_rfl) (fun x=>by kernel_rfl) (Eq3g)
abbrev Tq3y:Type:=ByteArray→(Int→ByteArray→Bool→Prop)→Prop
def Yq3y (xq3g:Tq3g) (xatoi:Tatoi) (a0:ByteArray) (K:Int→ByteArray→Bool→Prop):Prop :=
 (if decide ((↑(ByteArray.size a0):Int) < 3) then
 K 0 a0 false
 else
 (if (0 :Int)≤0∧0 < (↑(ByteArray.size a0):Int) then
 (if (Eng.bAt a0 (0:Nat) != 58) then
 K 0 a0 false
 else
 (if 0≤(↑(ByteArray.size a0):Int)∧(↑(ByteArray.size a0):Int)≤(↑(ByteArray.size a0):Int) then
 (if (0 :Int)≤1∧1≤(↑(ByteArray.size a0):Int) then
 xq3g (ByteArray.extract a0 (1:Nat) (Int.toNat (↑(ByteArray.size a0):Int))) (fun r1 =>
 (if decide (r1 < 2) then
 K 0 a0 false
 else
 (if (0 :Int)≤1∧1 < (↑(ByteArray.size a0):Int) then
 (if decide (Eng.bAt a0 (1:Nat) > 53) then
 K 0 a0 false
 else
 (if (0 :Int)≤3∧3≤(↑(ByteArray.size a0):Int) then
 xatoi (ByteArray.extract a0 (1:Nat) (3:Nat)) (fun r2 r3 =>
 (if 0≤(↑(ByteArray.size a0):Int)∧(↑(ByteArray.size a0):Int)≤(↑(ByteArray.size a0):Int) then
 (if (0 :Int)≤3∧3≤(↑(ByteArray.size a0):Int) then
 K r2 (ByteArray.extract a0 (3:Nat) (Int.toNat (↑(ByteArray.size a0):Int))) true
 else
 False)
 else
 False))
 else
 False))
 else
 False)))
 else
 False)
 else
 False))
 else
 False))
def Xq3y:Tq3y:=Yq3y Xq3g Xatoi
def Jq3y (X:Tq3y):Inst:=mkI 235 pL8 .nil pL60 .nil X
def Iq3y:Inst:=Jq3y Xq3y
theorem Eq3y (xq3g:Tq3g) (xatoi:Tatoi):EqF Tryz.prog 34 gives Tryz.f235 [Jq3g xq3g,Jatoi xatoi] [] (Jq3y (Yq3y xq3g xatoi)):=fun x y K=>by kernel_rfl
theorem Iq3y_ok:InstOk Tryz.prog G.1 Iq3y:=iok (gives:=gives) [] (okCons Iq3g_ok (okCons Iatoi_ok okNil)) 34 follows Tryz.func235 (by kernel_rfl) (fun x=>by kernel_rfl) (Eq3y Xq3g Xatoi)
abbrev Tq4e:Type:=ByteArray→Bool→(Int→ByteArray→Bool→Prop)→Prop
def Yq4e (xq3y:Tq3y) (a0:ByteArray) (a1:Bool) (K:Int→ByteArray→Bool→Prop):Prop :=
 (if (!a1) then
 K 0 a0 false
 else
 xq3y a0 (fun r2 r3 r4 =>
 K r2 r3 r4))
def Xq4e:Tq4e:=Yq4e Xq3y
def Jq4e (X:Tq4e):Inst:=mkI 236 pL50 .nil pL60 .nil X
def Iq4e:Inst:=Jq4e Xq4e
theorem Eq4e (xq3y:Tq3y):EqF Tryz.prog 15 gives Tryz.f236 [Jq3y xq3y] [] (Jq4e (Yq4e xq3y)):=fun x y K=>by kernel_rfl
theorem Iq4e_ok:InstOk Tryz.prog G.1 Iq4e:=iok (gives:=gives) [] (okCons Iq3y_ok okNil) 15 follows Tryz.func236 (by kernel_rfl) (fun x=>by kernel_rfl) (Eq4e Xq3y)
abbrev Tq4l:Type:=ByteArray→(Int→ByteArray→Bool→Prop)→Prop
def Yq4l (xq0b:Tq0b) (xq3g:Tq3g) (xatoi:Tatoi) (xq3y:Tq3y) (xq4e:Tq4e) (a0:ByteArray) (K:Int→ByteArray→Bool→Prop):Prop :=
 xq0b a0 (ByteArray.mk #[(45:UInt8)]) (fun r1 =>
 (if ((↑(ByteArray.size r1):Int) == (↑(ByteArray.size a0):Int)) then
 xq0b a0 (ByteArray.mk #[(43:UInt8)]) (fun r2 =>
 xq3g r2 (fun r3 =>
 (if ((if 3 < r3 then 3 else r3) == 0) then
 K 0 a0 false
 else
 (if (0≤if 3 < r3 then 3 else r3)∧(if 3 < r3 then 3 else r3)≤(↑(ByteArray.size r2):Int) then
 (if (0 :Int)≤0∧0≤if 3 < r3 then 3 else r3 then
 xatoi (ByteArray.extract r2 (0:Nat) (Int.toNat (if 3 < r3 then 3 else r3))) (fun r4 r5 =>
 (if decide (r4 > 167) then
 (if 0≤(↑(ByteArray.size r2):Int)∧(↑(ByteArray.size r2):Int)≤(↑(ByteArray.size r2):Int) then
 (if 0≤w64 ((if 3 < r3 then 3 else r3) - 1)∧w64 ((if 3 < r3 then 3 else r3) - 1)≤(↑(ByteArray.size r2):Int) then
 (lt (ByteArray.extract r2 (Int.toNat (w64 ((if 3 < r3 then 3 else r3) - 1))) (Int.toNat (↑(ByteArray.size r2):Int))) fun v6 =>
 xq3y v6 (fun r7 r8 r9 =>
 xq4e r8 r9 (fun r10 r11 r12 =>
 (lt (w64 (w64 (Int.tdiv r4 10) * 3600)) fun v13 =>
 (lt (w64 (v13+w64 (r7 * 60))) fun v14 =>
 (lt (w64 (1 * w64 (v14+r10))) fun v15 =>
 K v15 r11 true))))))
 else
 False)
 else
 False)
 else
 (if 0≤(↑(ByteArray.size r2):Int)∧(↑(ByteArray.size r2):Int)≤(↑(ByteArray.size r2):Int) then
 (if (0≤if 3 < r3 then 3 else r3)∧(if 3 < r3 then 3 else r3)≤(↑(ByteArray.size r2):Int) then
 xq3y (ByteArray.extract r2 (Int.toNat (if 3 < r3 then 3 else r3)) (Int.toNat (↑(ByteArray.size r2):Int))) (fun r16 r17 r18 =>
 xq4e r17 r18 (fun r19 r20 r21 =>
 (lt (w64 (w64 (r4 * 3600)+w64 (r16 * 60))) fun v22 =>
 (lt (w64 (1 * w64 (v22+r19))) fun v23 =>
 K v23 r20 true))))
 else
 False)
 else
 False)))
 else
 False)
 else
 False))))
 else
 xq3g r1 (fun r24 =>
 (if ((if 3 < r24 then 3 else r24) == 0) then
 K 0 a0 false
 else
 (if (0≤if 3 < r24 then 3 else r24)∧(if 3 < r24 then 3 else r24)≤(↑(ByteArray.size r1):Int) then
 (if (0 :Int)≤0∧0≤if 3 < r24 then 3 else r24 then
 xatoi (ByteArray.extract r1 (0:Nat) (Int.toNat (if 3 < r24 then 3 else r24))) (fun r25 r26 =>
 (if decide (r25 > 167) then
 (if 0≤(↑(ByteArray.size r1):Int)∧(↑(ByteArray.size r1):Int)≤(↑(ByteArray.size r1):Int) then
 (if 0≤w64 ((if 3 < r24 then 3 else r24) - 1)∧w64 ((if 3 < r24 then 3 else r24) - 1)≤(↑(ByteArray.size r1):Int) then
 (lt (ByteArray.extract r1 (Int.toNat (w64 ((if 3 < r24 then 3 else r24) - 1))) (Int.toNat (↑(ByteArray.size r1):Int))) fun v27 =>
 xq3y v27 (fun r28 r29 r30 =>
 xq4e r29 r30 (fun r31 r32 r33 =>
 (lt (w64 (w64 (Int.tdiv r25 10) * 3600)) fun v34 =>
 (lt (w64 (v34+w64 (r28 * 60))) fun v35 =>
 (lt (w64 ((-1) * w64 (v35+r31))) fun v36 =>
 K v36 r32 true))))))
 else
 False)
 else
 False)
 else
 (if 0≤(↑(ByteArray.size r1):Int)∧(↑(ByteArray.size r1):Int)≤(↑(ByteArray.size r1):Int) then
 (if (0≤if 3 < r24 then 3 else r24)∧(if 3 < r24 then 3 else r24)≤(↑(ByteArray.size r1):Int) then
 xq3y (ByteArray.extract r1 (Int.toNat (if 3 < r24 then 3 else r24)) (Int.toNat (↑(ByteArray.size r1):Int))) (fun r37 r38 r39 =>
 xq4e r38 r39 (fun r40 r41 r42 =>
 (lt (w64 (w64 (r25 * 3600)+w64 (r37 * 60))) fun v43 =>
 (lt (w64 ((-1) * w64 (v43+r40))) fun v44 =>
 K v44 r41 true))))
 else
 False)
 else
 False)))
 else
 False)
 else
 False)))))
def Xq4l:Tq4l:=Yq4l Xq0b Xq3g Xatoi Xq3y Xq4e
def Jq4l (X:Tq4l):Inst:=mkI 210 pL8 .nil pL60 .nil X
def Iq4l:Inst:=Jq4l Xq4l
theorem Eq4l (xq0b:Tq0b) (xq3g:Tq3g) (xatoi:Tatoi) (xq3y:Tq3y) (xq4e:Tq4e):EqF Tryz.prog 68 gives Tryz.f210 [Jq0b xq0b,Jq3g xq3g,Jatoi xatoi,Jq3y xq3y,Jq4e xq4e] [] (Jq4l (Yq4l xq0b xq3g xatoi xq3y xq4e)):=fun x y K=>by kernel_rfl
theorem Iq4l_ok:InstOk Tryz.prog G.1 Iq4l:=iok (gives:=gives) [] (okCons Iq0b_ok (okCons Iq3g_ok (okCons Iatoi_ok (okCons Iq3y_ok (okCons Iq4e_ok okNil))))) 68 follows Tryz.func210 (by kernel_rfl) (fun x=>by kernel_rfl) (Eq4l Xq0b Xq3g Xatoi Xq3y Xq4e)
abbrev Tq0o:Type:=ByteArray→Int→Bool→ByteArray→Int→Bool→ByteArray→Bool→Int→Int→Int→Int→Int→Int→Int→Int→Int→Int→(Bool→ByteArray→Int→Bool→ByteArray→Int→Bool→ByteArray→Bool→Int→Int→Int→Int→Int→Int→Int→Int→Int→Int→Prop)→Prop
def Yq0o (xq12:Tq12) (xq4l:Tq4l) (a0:ByteArray) (a1:Int) (a2:Bool) (a3:ByteArray) (a4:Int) (a5:Bool) (a6:ByteArray) (a7:Bool) (a8:Int) (a9:Int) (a10:Int) (a11:Int) (a12:Int) (a13:Int) (a14:Int) (a15:Int) (a16:Int) (a17:Int) (K:Bool→ByteArray→Int→Bool→ByteArray→Int→Bool→ByteArray→Bool→Int→Int→Int→Int→Int→Int→Int→Int→Int→Int→Prop):Prop :=
 xq12 a0 a1 a2 a3 a4 a5 a6 a7 a8 a9 a10 a11 a12 a13 a14 a15 a16 a17 (fun r18 r19 r20 r21 r22 r23 r24 r25 r26 r27 r28 r29 r30 r31 r32 r33 r34 r35 r36 r37 =>
 xq4l r20 (fun r38 r39 r40 =>
 (if r19 then
 K r40 r39 (w64 (0 - r38)) false r18 r24 r25 r26 r27 r28 r29 r30 r31 r32 r33 r34 r35 r36 r37
 else
 K false r39 (w64 (0 - r38)) false r18 r24 r25 r26 r27 r28 r29 r30 r31 r32 r33 r34 r35 r36 r37)))
def Xq0o:Tq0o:=Yq0o Xq12 Xq4l
def Jq0o (X:Tq0o):Inst:=mkI 173 pL55 pH56 pL1 pH56 X
def Iq0o:Inst:=Jq0o Xq0o
theorem Eq0o (xq12:Tq12) (xq4l:Tq4l):EqF Tryz.prog 38 gives Tryz.f173 [Jq12 xq12,Jq4l xq4l] [] (Jq0o (Yq0o xq12 xq4l)):=fun x y K=>by kernel_rfl
theorem Iq0o_ok:InstOk Tryz.prog G.1 Iq0o:=iok (gives:=gives) [] (okCons Iq12_ok (okCons Iq4l_ok okNil)) 38 follows Tryz.func173 (by kernel_rfl) (fun x=>by kernel_rfl) (Eq0o Xq12 Xq4l)
abbrev Tq0e:Type:=ByteArray→Int→Bool→ByteArray→Int→Bool→ByteArray→Bool→Int→Int→Int→Int→Int→Int→Int→Int→Int→Int→(Bool→ByteArray→Int→Bool→ByteArray→Int→Bool→ByteArray→Bool→Int→Int→Int→Int→Int→Int→Int→Int→Int→Int→Prop)→Prop
def Yq0e (xq12:Tq12) (xq4l:Tq4l) (a0:ByteArray) (a1:Int) (a2:Bool) (a3:ByteArray) (a4:Int) (a5:Bool) (a6:ByteArray) (a7:Bool) (a8:Int) (a9:Int) (a10:Int) (a11:Int) (a12:Int) (a13:Int) (a14:Int) (a15:Int) (a16:Int) (a17:Int) (K:Bool→ByteArray→Int→Bool→ByteArray→Int→Bool→ByteArray→Bool→Int→Int→Int→Int→Int→Int→Int→Int→Int→Int→Prop):Prop :=
 xq12 a0 a1 a2 a3 a4 a5 a6 a7 a8 a9 a10 a11 a12 a13 a14 a15 a16 a17 (fun r18 r19 r20 r21 r22 r23 r24 r25 r26 r27 r28 r29 r30 r31 r32 r33 r34 r35 r36 r37 =>
 xq4l r20 (fun r38 r39 r40 =>
 (if r40 then
 K r19 r39 r21 r22 r23 (w64 (0 - r38)) true r18 true r28 r29 r30 r31 r32 r33 r34 r35 r36 r37
 else
 K r19 r20 r21 r22 r23 (w64 (r21+3600)) true r18 true r28 r29 r30 r31 r32 r33 r34 r35 r36 r37)))
def Xq0e:Tq0e:=Yq0e Xq12 Xq4l
def Jq0e (X:Tq0e):Inst:=mkI 174 pL55 pH56 pL1 pH56 X
def Iq0e:Inst:=Jq0e Xq0e
theorem Eq0e (xq12:Tq12) (xq4l:Tq4l):EqF Tryz.prog 50 gives Tryz.f174 [Jq12 xq12,Jq4l xq4l] [] (Jq0e (Yq0e xq12 xq4l)):=fun x y K=>by kernel_rfl
theorem Iq0e_ok:InstOk Tryz.prog G.1 Iq0e:=iok (gives:=gives) [] (okCons Iq12_ok (okCons Iq4l_ok okNil)) 50 follows Tryz.func174 (by kernel_rfl) (fun x=>by kernel_rfl) (Eq0e Xq12 Xq4l)
abbrev Tq39:Type:=ByteArray→Int→(Int→ByteArray→Bool→Prop)→Prop
def Yq39 (xq3g:Tq3g) (xatoi:Tatoi) (a0:ByteArray) (a1:Int) (K:Int→ByteArray→Bool→Prop):Prop :=
 xq3g a0 (fun r2 =>
 (if (r2 == 0) then
 K 0 a0 false
 else
 (if decide (r2 > a1) then
 K 0 a0 false
 else
 (if 0≤r2∧r2≤(↑(ByteArray.size a0):Int) then
 (if (0 :Int)≤0∧0≤r2 then
 xatoi (ByteArray.extract a0 (0:Nat) (Int.toNat r2)) (fun r3 r4 =>
 (if 0≤(↑(ByteArray.size a0):Int)∧(↑(ByteArray.size a0):Int)≤(↑(ByteArray.size a0):Int) then
 (if 0≤r2∧r2≤(↑(ByteArray.size a0):Int) then
 K r3 (ByteArray.extract a0 (Int.toNat r2) (Int.toNat (↑(ByteArray.size a0):Int))) true
 else
 False)
 else
 False))
 else
 False)
 else
 False))))
def Xq39:Tq39:=Yq39 Xq3g Xatoi
def Jq39 (X:Tq39):Inst:=mkI 270 pL61 .nil pL60 .nil X
def Iq39:Inst:=Jq39 Xq39
theorem Eq39 (xq3g:Tq3g) (xatoi:Tatoi):EqF Tryz.prog 29 gives Tryz.f270 [Jq3g xq3g,Jatoi xatoi] [] (Jq39 (Yq39 xq3g xatoi)):=fun x y K=>by kernel_rfl
theorem Iq39_ok:InstOk Tryz.prog G.1 Iq39:=iok (gives:=gives) [] (okCons Iq3g_ok (okCons Iatoi_ok okNil)) 29 follows Tryz.func270 (by kernel_rfl) (fun x=>by kernel_rfl) (Eq39 Xq3g Xatoi)
abbrev Tq4b:Type:=ByteArray→(Q45→ByteArray→Bool→Prop)→Prop
def Yq4b (xq39:Tq39) (xq0r:Tq0r) (a0:ByteArray) (K:Q45→ByteArray→Bool→Prop):Prop :=
 xq39 a0 2 (fun r1 r2 r3 =>
 xq0r r2 (ByteArray.mk #[(46:UInt8)]) (fun r4 r5 =>
 xq39 r4 1 (fun r6 r7 r8 =>
 xq0r r7 (ByteArray.mk #[(46:UInt8)]) (fun r9 r10 =>
 xq39 r9 1 (fun r11 r12 r13 =>
 (if r3 then
 (if r8 then
 (if r13 then
 (if r5 then
 K (0,r1,r6,r11,0,()) r12 r10
 else
 K (0,r1,r6,r11,0,()) r12 false)
 else
 K (0,r1,r6,r11,0,()) r12 false)
 else
 K (0,r1,r6,r11,0,()) r12 false)
 else
 K (0,r1,r6,r11,0,()) r12 false))))))
def Xq4b:Tq4b:=Yq4b Xq39 Xq0r
def Jq4b (X:Tq4b):Inst:=mkI 269 pL8 .nil pL62 .nil X
def Iq4b:Inst:=Jq4b Xq4b
theorem Eq4b (xq39:Tq39) (xq0r:Tq0r):EqF Tryz.prog 63 gives Tryz.f269 [Jq39 xq39,Jq0r xq0r] [] (Jq4b (Yq4b xq39 xq0r)):=fun x y K=>by kernel_rfl
theorem Iq4b_ok:InstOk Tryz.prog G.1 Iq4b:=iok (gives:=gives) [] (okCons Iq39_ok (okCons Iq0r_ok okNil)) 63 follows Tryz.func269 (by kernel_rfl) (fun x=>by kernel_rfl) (Eq4b Xq39 Xq0r)
abbrev Tq4h:Type:=ByteArray→(Q45→ByteArray→Bool→Prop)→Prop
def Yq4h (xq0r:Tq0r) (xq4b:Tq4b) (xq39:Tq39) (a0:ByteArray) (K:Q45→ByteArray→Bool→Prop):Prop :=
 xq0r a0 (ByteArray.mk #[(77:UInt8)]) (fun r1 r2 =>
 (if r2 then
 xq4b r1 (fun r3 r4 r5 =>
 K r3 r4 r5)
 else
 xq0r a0 (ByteArray.mk #[(74:UInt8)]) (fun r6 r7 =>
 (if r7 then
 xq39 r6 3 (fun r8 r9 r10 =>
 K (1,r8,0,0,0,()) r9 r10)
 else
 xq39 r6 3 (fun r11 r12 r13 =>
 K (2,r11,0,0,0,()) r12 r13)))))
def Xq4h:Tq4h:=Yq4h Xq0r Xq4b Xq39
def Jq4h (X:Tq4h):Inst:=mkI 254 pL8 .nil pL62 .nil X
def Iq4h:Inst:=Jq4h Xq4h
theorem Eq4h (xq0r:Tq0r) (xq4b:Tq4b) (xq39:Tq39):EqF Tryz.prog 38 gives Tryz.f254 [Jq0r xq0r,Jq4b xq4b,Jq39 xq39] [] (Jq4h (Yq4h xq0r xq4b xq39)):=fun x y K=>by kernel_rfl
theorem Iq4h_ok:InstOk Tryz.prog G.1 Iq4h:=iok (gives:=gives) [] (okCons Iq0r_ok (okCons Iq4b_ok (okCons Iq39_ok okNil))) 38 follows Tryz.func254 (by kernel_rfl) (fun x=>by kernel_rfl) (Eq4h Xq0r Xq4b Xq39)
abbrev Tq3i:Type:=ByteArray→(Q45→ByteArray→Bool→Prop)→Prop
def Yq3i (xq4h:Tq4h) (xq0r:Tq0r) (xq4l:Tq4l) (xq44:Tq44) (a0:ByteArray) (K:Q45→ByteArray→Bool→Prop):Prop :=
 xq4h a0 (fun r1 r2 r3 =>
 xq0r r2 (ByteArray.mk #[(47:UInt8)]) (fun r4 r5 =>
 (if r3 then
 (if r5 then
 xq4l r4 (fun r6 r7 r8 =>
 (if (!r8) then
 K (0,0,0,0,0,()) a0 false
 else
 xq44 (r1.1,r1.2.1,r1.2.2.1,r1.2.2.2.1,r6,()) (fun r9 =>
 (if (!r9) then
 K (0,0,0,0,0,()) a0 false
 else
 K (r1.1,r1.2.1,r1.2.2.1,r1.2.2.2.1,r6,()) r7 true))))
 else
 (if (!r3) then
 K (0,0,0,0,0,()) a0 false
 else
 xq44 (r1.1,r1.2.1,r1.2.2.1,r1.2.2.2.1,7200,()) (fun r10 =>
 (if (!r10) then
 K (0,0,0,0,0,()) a0 false
 else
 K (r1.1,r1.2.1,r1.2.2.1,r1.2.2.2.1,7200,()) r2 true))))
 else
 (if (!r3) then
 K (0,0,0,0,0,()) a0 false
 else
 xq44 (r1.1,r1.2.1,r1.2.2.1,r1.2.2.2.1,7200,()) (fun r11 =>
 (if (!r11) then
 K (0,0,0,0,0,()) a0 false
 else
 K (r1.1,r1.2.1,r1.2.2.1,r1.2.2.2.1,7200,()) r2 true))))))
def Xq3i:Tq3i:=Yq3i Xq4h Xq0r Xq4l Xq44
def Jq3i (X:Tq3i):Inst:=mkI 237 pL8 .nil pL62 .nil X
def Iq3i:Inst:=Jq3i Xq3i
theorem Eq3i (xq4h:Tq4h) (xq0r:Tq0r) (xq4l:Tq4l) (xq44:Tq44):EqF Tryz.prog 44 gives Tryz.f237 [Jq4h xq4h,Jq0r xq0r,Jq4l xq4l,Jq44 xq44] [] (Jq3i (Yq3i xq4h xq0r xq4l xq44)):=fun x y K=>by kernel_rfl
theorem Iq3i_ok:InstOk Tryz.prog G.1 Iq3i:=iok (gives:=gives) [] (okCons Iq4h_ok (okCons Iq0r_ok (okCons Iq4l_ok (okCons Iq44_ok okNil)))) 44 follows Tryz.func237 (by kernel_rfl) (fun x=>by kernel_rfl) (Eq3i Xq4h Xq0r Xq4l Xq44)
abbrev Tq1j:Type:=ByteArray→Int→Bool→ByteArray→Int→Bool→ByteArray→Bool→Int→Int→Int→Int→Int→Int→Int→Int→Int→Int→(Bool→ByteArray→Int→Bool→ByteArray→Int→Bool→ByteArray→Bool→Int→Int→Int→Int→Int→Int→Int→Int→Int→Int→Prop)→Prop
def Yq1j (xq0r:Tq0r) (xq3i:Tq3i) (a0:ByteArray) (a1:Int) (a2:Bool) (a3:ByteArray) (a4:Int) (a5:Bool) (a6:ByteArray) (a7:Bool) (a8:Int) (a9:Int) (a10:Int) (a11:Int) (a12:Int) (a13:Int) (a14:Int) (a15:Int) (a16:Int) (a17:Int) (K:Bool→ByteArray→Int→Bool→ByteArray→Int→Bool→ByteArray→Bool→Int→Int→Int→Int→Int→Int→Int→Int→Int→Int→Prop):Prop :=
 xq0r a0 (ByteArray.mk #[(44:UInt8)]) (fun r18 r19 =>
 xq3i r18 (fun r20 r21 r22 =>
 (if r22 then
 K r19 r21 a1 a2 a3 a4 a5 a6 a7 r20.1 r20.2.1 r20.2.2.1 r20.2.2.2.1 r20.2.2.2.2.1 a13 a14 a15 a16 a17
 else
 K false r21 a1 a2 a3 a4 a5 a6 a7 r20.1 r20.2.1 r20.2.2.1 r20.2.2.2.1 r20.2.2.2.2.1 a13 a14 a15 a16 a17)))
def Xq1j:Tq1j:=Yq1j Xq0r Xq3i
def Jq1j (X:Tq1j):Inst:=mkI 211 pL63 pH56 pL1 pH56 X
def Iq1j:Inst:=Jq1j Xq1j
theorem Eq1j (xq0r:Tq0r) (xq3i:Tq3i):EqF Tryz.prog 30 gives Tryz.f211 [Jq0r xq0r,Jq3i xq3i] [] (Jq1j (Yq1j xq0r xq3i)):=fun x y K=>by kernel_rfl
theorem Iq1j_ok:InstOk Tryz.prog G.1 Iq1j:=iok (gives:=gives) [] (okCons Iq0r_ok (okCons Iq3i_ok okNil)) 30 follows Tryz.func211 (by kernel_rfl) (fun x=>by kernel_rfl) (Eq1j Xq0r Xq3i)
abbrev Tq1a:Type:=ByteArray→Int→Bool→ByteArray→Int→Bool→ByteArray→Bool→Int→Int→Int→Int→Int→Int→Int→Int→Int→Int→(Bool→ByteArray→Int→Bool→ByteArray→Int→Bool→ByteArray→Bool→Int→Int→Int→Int→Int→Int→Int→Int→Int→Int→Prop)→Prop
def Yq1a (xq1j:Tq1j) (a0:ByteArray) (a1:Int) (a2:Bool) (a3:ByteArray) (a4:Int) (a5:Bool) (a6:ByteArray) (a7:Bool) (a8:Int) (a9:Int) (a10:Int) (a11:Int) (a12:Int) (a13:Int) (a14:Int) (a15:Int) (a16:Int) (a17:Int) (K:Bool→ByteArray→Int→Bool→ByteArray→Int→Bool→ByteArray→Bool→Int→Int→Int→Int→Int→Int→Int→Int→Int→Int→Prop):Prop :=
 xq1j a0 a1 a2 a3 a4 a5 a6 a7 a8 a9 a10 a11 a12 a13 a14 a15 a16 a17 (fun r18 r19 r20 r21 r22 r23 r24 r25 r26 r27 r28 r29 r30 r31 r32 r33 r34 r35 r36 =>
 K r18 r19 r20 r21 r22 r23 r24 r25 r26 r27 r28 r29 r30 r31 r32 r33 r34 r35 r36)
def Xq1a:Tq1a:=Yq1a Xq1j
def Jq1a (X:Tq1a):Inst:=mkI 175 pL55 pH56 pL1 pH56 X
def Iq1a:Inst:=Jq1a Xq1a
theorem Eq1a (xq1j:Tq1j):EqF Tryz.prog 9 gives Tryz.f175 [Jq1j xq1j] [] (Jq1a (Yq1a xq1j)):=fun x y K=>by kernel_rfl
theorem Iq1a_ok:InstOk Tryz.prog G.1 Iq1a:=iok (gives:=gives) [] (okCons Iq1j_ok okNil) 9 follows Tryz.func175 (by kernel_rfl) (fun x=>by kernel_rfl) (Eq1a Xq1j)
abbrev Tq0f:Type:=ByteArray→Int→Bool→ByteArray→Int→Bool→ByteArray→Bool→Int→Int→Int→Int→Int→Int→Int→Int→Int→Int→(Bool→ByteArray→Int→Bool→ByteArray→Int→Bool→ByteArray→Bool→Int→Int→Int→Int→Int→Int→Int→Int→Int→Int→Prop)→Prop
def Yq0f (xq0r:Tq0r) (xq3i:Tq3i) (a0:ByteArray) (a1:Int) (a2:Bool) (a3:ByteArray) (a4:Int) (a5:Bool) (a6:ByteArray) (a7:Bool) (a8:Int) (a9:Int) (a10:Int) (a11:Int) (a12:Int) (a13:Int) (a14:Int) (a15:Int) (a16:Int) (a17:Int) (K:Bool→ByteArray→Int→Bool→ByteArray→Int→Bool→ByteArray→Bool→Int→Int→Int→Int→Int→Int→Int→Int→Int→Int→Prop):Prop :=
 xq0r a0 (ByteArray.mk #[(44:UInt8)]) (fun r18 r19 =>
 xq3i r18 (fun r20 r21 r22 =>
 (if r22 then
 K r19 r21 a1 a2 a3 a4 a5 a6 a7 a8 a9 a10 a11 a12 r20.1 r20.2.1 r20.2.2.1 r20.2.2.2.1 r20.2.2.2.2.1
 else
 K false r21 a1 a2 a3 a4 a5 a6 a7 a8 a9 a10 a11 a12 r20.1 r20.2.1 r20.2.2.1 r20.2.2.2.1 r20.2.2.2.2.1)))
def Xq0f:Tq0f:=Yq0f Xq0r Xq3i
def Jq0f (X:Tq0f):Inst:=mkI 211 pL64 pH56 pL1 pH56 X
def Iq0f:Inst:=Jq0f Xq0f
theorem Eq0f (xq0r:Tq0r) (xq3i:Tq3i):EqF Tryz.prog 30 gives Tryz.f211 [Jq0r xq0r,Jq3i xq3i] [] (Jq0f (Yq0f xq0r xq3i)):=fun x y K=>by kernel_rfl
theorem Iq0f_ok:InstOk Tryz.prog G.1 Iq0f:=iok (gives:=gives) [] (okCons Iq0r_ok (okCons Iq3i_ok okNil)) 30 follows Tryz.func211 (by kernel_rfl) (fun x=>by kernel_rfl) (Eq0f Xq0r Xq3i)
abbrev Tq25:Type:=ByteArray→Int→Bool→ByteArray→Int→Bool→ByteArray→Bool→Int→Int→Int→Int→Int→Int→Int→Int→Int→Int→(Bool→ByteArray→Int→Bool→ByteArray→Int→Bool→ByteArray→Bool→Int→Int→Int→Int→Int→Int→Int→Int→Int→Int→Prop)→Prop
def Yq25 (xq0f:Tq0f) (a0:ByteArray) (a1:Int) (a2:Bool) (a3:ByteArray) (a4:Int) (a5:Bool) (a6:ByteArray) (a7:Bool) (a8:Int) (a9:Int) (a10:Int) (a11:Int) (a12:Int) (a13:Int) (a14:Int) (a15:Int) (a16:Int) (a17:Int) (K:Bool→ByteArray→Int→Bool→ByteArray→Int→Bool→ByteArray→Bool→Int→Int→Int→Int→Int→Int→Int→Int→Int→Int→Prop):Prop :=
 xq0f a0 a1 a2 a3 a4 a5 a6 a7 a8 a9 a10 a11 a12 a13 a14 a15 a16 a17 (fun r18 r19 r20 r21 r22 r23 r24 r25 r26 r27 r28 r29 r30 r31 r32 r33 r34 r35 r36 =>
 K r18 r19 r20 r21 r22 r23 r24 r25 r26 r27 r28 r29 r30 r31 r32 r33 r34 r35 r36)
def Xq25:Tq25:=Yq25 Xq0f
def Jq25 (X:Tq25):Inst:=mkI 176 pL55 pH56 pL1 pH56 X
def Iq25:Inst:=Jq25 Xq25
theorem Eq25 (xq0f:Tq0f):EqF Tryz.prog 9 gives Tryz.f176 [Jq0f xq0f] [] (Jq25 (Yq25 xq0f)):=fun x y K=>by kernel_rfl
theorem Iq25_ok:InstOk Tryz.prog G.1 Iq25:=iok (gives:=gives) [] (okCons Iq0f_ok okNil) 9 follows Tryz.func176 (by kernel_rfl) (fun x=>by kernel_rfl) (Eq25 Xq0f)
abbrev Tq42:Type:=ByteArray→(Q47→Bool→Prop)→Prop
def Lq42_0p:Lp:=⟨1835036,[],.nil,.nil,12⟩
def Yq42 (xq0o:Tq0o) (xq43:Tq43) (xq0e:Tq0e) (xq1a:Tq1a) (xq25:Tq25) (a0:ByteArray) (K:Q47→Bool→Prop):Prop :=
 xq0o a0 0 false (ByteArray.mk #[]) 0 false (ByteArray.mk #[]) false 0 0 0 0 0 0 0 0 0 0 (fun r1 r2 r3 r4 r5 r6 r7 r8 r9 r10 r11 r12 r13 r14 r15 r16 r17 r18 r19 =>
 (if (!r1) then
 K (0,false,ByteArray.mk #[],0,false,ByteArray.mk #[],false,0,0,0,0,0,0,0,0,0,0,()) false
 else
 (if (ByteArray.toList r2 == ByteArray.toList (ByteArray.mk #[])) then
 (if (!ByteArray.toList r2 == ByteArray.toList (ByteArray.mk #[])) then
 K (0,false,ByteArray.mk #[],0,false,ByteArray.mk #[],false,0,0,0,0,0,0,0,0,0,0,()) false
 else
 xq43 (r3,r4,r5,r6,r7,r8,r9,r10,r11,r12,r13,r14,r15,r16,r17,r18,r19,()) (fun r20 =>
 (if (!r20) then
 K (0,false,ByteArray.mk #[],0,false,ByteArray.mk #[],false,0,0,0,0,0,0,0,0,0,0,()) false
 else
 K (r3,r4,r5,r6,r7,r8,r9,r10,r11,r12,r13,r14,r15,r16,r17,r18,r19,()) true)))
 else
 xq0e r2 r3 r4 r5 r6 r7 r8 r9 r10 r11 r12 r13 r14 r15 r16 r17 r18 r19 (fun r21 r22 r23 r24 r25 r26 r27 r28 r29 r30 r31 r32 r33 r34 r35 r36 r37 r38 r39 =>
 (if (!r21) then
 K (0,false,ByteArray.mk #[],0,false,ByteArray.mk #[],false,0,0,0,0,0,0,0,0,0,0,()) false
 else
 xq1a r22 r23 r24 r25 r26 r27 r28 r29 r30 r31 r32 r33 r34 r35 r36 r37 r38 r39 (fun r40 r41 r42 r43 r44 r45 r46 r47 r48 r49 r50 r51 r52 r53 r54 r55 r56 r57 r58 =>
 (if (!r40) then
 K (0,false,ByteArray.mk #[],0,false,ByteArray.mk #[],false,0,0,0,0,0,0,0,0,0,0,()) false
 else
 xq25 r41 r42 r43 r44 r45 r46 r47 r48 r49 r50 r51 r52 r53 r54 r55 r56 r57 r58 (fun r59 r60 r61 r62 r63 r64 r65 r66 r67 r68 r69 r70 r71 r72 r73 r74 r75 r76 r77 =>
 (if (!r59) then
 K (0,false,ByteArray.mk #[],0,false,ByteArray.mk #[],false,0,0,0,0,0,0,0,0,0,0,()) false
 else
 (if (!ByteArray.toList r60 == ByteArray.toList (ByteArray.mk #[])) then
 K (0,false,ByteArray.mk #[],0,false,ByteArray.mk #[],false,0,0,0,0,0,0,0,0,0,0,()) false
 else
 xq43 (r61,r62,r63,r64,r65,r66,r67,r68,r69,r70,r71,r72,r73,r74,r75,r76,r77,()) (fun r78 =>
 (if (!r78) then
 K (0,false,ByteArray.mk #[],0,false,ByteArray.mk #[],false,0,0,0,0,0,0,0,0,0,0,()) false
 else
 K (r61,r62,r63,r64,r65,r66,r67,r68,r69,r70,r71,r72,r73,r74,r75,r76,r77,()) true))))))))))))
def Xq42:Tq42:=Yq42 Xq0o Xq43 Xq0e Xq1a Xq25
def Jq42 (X:Tq42):Inst:=mkI 118 pL8 .nil pL65 .nil X
def Iq42:Inst:=Jq42 Xq42
theorem Eq42 (xq0o:Tq0o) (xq43:Tq43) (xq0e:Tq0e) (xq1a:Tq1a) (xq25:Tq25):EqF Tryz.prog 57 gives Tryz.f118 [Jq0o xq0o,Jq43 xq43,Jq0e xq0e,Jq1a xq1a,Jq25 xq25] [Lq42_0p] (Jq42 (Yq42 xq0o xq43 xq0e xq1a xq25)):=fun x y K=>by kernel_rfl
theorem Iq42_ok:InstOk Tryz.prog G.1 Iq42:=iok (gives:=gives) [Lq42_0p] (okCons Iq0o_ok (okCons Iq43_ok (okCons Iq0e_ok (okCons Iq1a_ok (okCons Iq25_ok okNil))))) 57 follows Tryz.func118 (by kernel_rfl) (fun x=>by kernel_rfl) (Eq42 Xq0o Xq43 Xq0e Xq1a Xq25)
abbrev Tq4p:Type:=Q45→(Bool→Prop)→Prop
def Yq4p (a0:Q45) (K:Bool→Prop):Prop :=
 (if decide (a0.2.2.2.2.1 < 0) then
 K true
 else
 K (decide (a0.2.2.2.2.1 > 86400)))
def Xq4p:Tq4p:=Yq4p
def Jq4p (X:Tq4p):Inst:=mkI 123 pL46 .nil pL1 .nil X
def Iq4p:Inst:=Jq4p Xq4p
theorem Eq4p:EqF Tryz.prog 11 gives Tryz.f123 [] [] (Jq4p (Yq4p)):=fun x y K=>by kernel_rfl
theorem Iq4p_ok:InstOk Tryz.prog G.1 Iq4p:=iok (gives:=gives) [] okNil 11 follows Tryz.func123 (by kernel_rfl) (fun x=>by kernel_rfl) (Eq4p)
abbrev Tq4a:Type:=Q15→(Bool→Prop)→Prop
def Yq4a (xq42:Tq42) (xq4p:Tq4p) (a0:Q15) (K:Bool→Prop):Prop :=
 (if (ByteArray.toList a0.2.2.2.1 == ByteArray.toList (ByteArray.mk #[])) then
 K true
 else
 xq42 a0.2.2.2.1 (fun r1 r2 =>
 xq4p (r1.2.2.2.2.2.2.2.1,r1.2.2.2.2.2.2.2.2.1,r1.2.2.2.2.2.2.2.2.2.1,r1.2.2.2.2.2.2.2.2.2.2.1,r1.2.2.2.2.2.2.2.2.2.2.2.1,()) (fun r3 =>
 (if r3 then
 (if r2 then
 K (decide (a0.2.2.2.2.1≥3))
 else
 K false)
 else
 xq4p r1.2.2.2.2.2.2.2.2.2.2.2.2 (fun r4 =>
 (if r4 then
 (if r2 then
 K (decide (a0.2.2.2.2.1≥3))
 else
 K false)
 else
 (if r2 then
 K (decide (a0.2.2.2.2.1≥2))
 else
 K false)))))))
def Xq4a:Tq4a:=Yq4a Xq42 Xq4p
def Jq4a (X:Tq4a):Inst:=mkI 58 pL19 .nil pL1 .nil X
def Iq4a:Inst:=Jq4a Xq4a
theorem Eq4a (xq42:Tq42) (xq4p:Tq4p):EqF Tryz.prog 32 gives Tryz.f58 [Jq42 xq42,Jq4p xq4p] [] (Jq4a (Yq4a xq42 xq4p)):=fun x y K=>by kernel_rfl
theorem Iq4a_ok:InstOk Tryz.prog G.1 Iq4a:=iok (gives:=gives) [] (okCons Iq42_ok (okCons Iq4p_ok okNil)) 32 follows Tryz.func58 (by kernel_rfl) (fun x=>by kernel_rfl) (Eq4a Xq42 Xq4p)
abbrev Tq3k:Type:=Q15→(Bool→Prop)→Prop
def Yq3k (xq32:Tq32) (xq2r:Tq2r) (xq2m:Tq2m) (xq0c:Tq0c) (xq0a:Tq0a) (xq4a:Tq4a) (a0:Q15) (K:Bool→Prop):Prop :=
 xq32 a0 (fun r1 r2 =>
 (if (!r2) then
 K false
 else
 xq2r a0.2.2.1 (fun r3 =>
 (if (!r3) then
 K false
 else
 xq2m a0.2.2.1 (fun r4 r5 =>
 (if r5 then
 (if decide (a0.2.2.2.2.1 < 4) then
 K false
 else
 xq0c a0.1 (fun r6 =>
 xq0a a0.2.1 a0.1 a0.2.1 a0.2.2.1 a0.2.2.2.1 a0.2.2.2.2.1 (fun r7 r8 r9 r10 r11 r12 r13 r14 r15 r16 r17 r18 =>
 (if r6 then
 (if r7 then
 xq4a (r10,r13,r16,r8,r9,()) (fun r19 =>
 K r19)
 else
 K false)
 else
 K false))))
 else
 xq0c a0.1 (fun r20 =>
 xq0a a0.2.1 a0.1 a0.2.1 a0.2.2.1 a0.2.2.2.1 a0.2.2.2.2.1 (fun r21 r22 r23 r24 r25 r26 r27 r28 r29 r30 r31 r32 =>
 (if r20 then
 (if r21 then
 xq4a (r24,r27,r30,r22,r23,()) (fun r33 =>
 K r33)
 else
 K false)
 else
 K false)))))))))
def Xq3k:Tq3k:=Yq3k Xq32 Xq2r Xq2m Xq0c Xq0a Xq4a
def Jq3k (X:Tq3k):Inst:=mkI 19 pL19 .nil pL1 .nil X
def Iq3k:Inst:=Jq3k Xq3k
theorem Eq3k (xq32:Tq32) (xq2r:Tq2r) (xq2m:Tq2m) (xq0c:Tq0c) (xq0a:Tq0a) (xq4a:Tq4a):EqF Tryz.prog 49 gives Tryz.f19 [Jq32 xq32,Jq2r xq2r,Jq2m xq2m,Jq0c xq0c,Jq0a xq0a,Jq4a xq4a] [] (Jq3k (Yq3k xq32 xq2r xq2m xq0c xq0a xq4a)):=fun x y K=>by kernel_rfl
theorem Iq3k_ok:InstOk Tryz.prog G.1 Iq3k:=iok (gives:=gives) [] (okCons Iq32_ok (okCons Iq2r_ok (okCons Iq2m_ok (okCons Iq0c_ok (okCons Iq0a_ok (okCons Iq4a_ok okNil)))))) 49 follows Tryz.func19 (by kernel_rfl) (fun x=>by kernel_rfl) (Eq3k Xq32 Xq2r Xq2m Xq0c Xq0a Xq4a)
abbrev Tq2w:Type:=Int→(List Eng.V)→(List Eng.V)→(List Eng.V)→ByteArray→Int→Int→(Bool→ByteArray→Int→Int→(List Eng.V)→Bool→Bool→(List Eng.V)→Bool→Bool→(List Eng.V)→Bool→Bool→Prop)→Prop
def Yq2w (a0:Int) (a1:(List Eng.V)) (a2:(List Eng.V)) (a3:(List Eng.V)) (a4:ByteArray) (a5:Int) (a6:Int) (K:Bool→ByteArray→Int→Int→(List Eng.V)→Bool→Bool→(List Eng.V)→Bool→Bool→(List Eng.V)→Bool→Bool→Prop):Prop :=
 (if 0≤a0∧a0 < (↑(List.length a2):Int) then
 (Eng.asInt IntKind.i64 (Eng.getC a2 (Int.toNat a0) (0:Nat)) False fun n7 =>
 K (decide (n7 > a6)) a4 a5 a6 a1 false true a2 false true a3 false true)
 else
 False)
def Xq2w:Tq2w:=Yq2w
def Jq2w (X:Tq2w):Inst:=mkI 117 pL66 pH67 pL1 pH68 X
def Iq2w:Inst:=Jq2w Xq2w
theorem Eq2w:EqF Tryz.prog 13 gives Tryz.f117 [] [] (Jq2w (Yq2w)):=fun x y K=>by kernel_rfl
theorem Iq2w_ok:InstOk Tryz.prog G.1 Iq2w:=iok (gives:=gives) [] okNil 13 follows Tryz.func117 (by kernel_rfl) (fun x=>by kernel_rfl) (Eq2w)
abbrev Tq33:Type:=Int→(List Eng.V)→(List Eng.V)→(List Eng.V)→ByteArray→Int→Int→(Int→ByteArray→Int→Int→(List Eng.V)→Bool→Bool→(List Eng.V)→Bool→Bool→(List Eng.V)→Bool→Bool→Prop)→Prop
def Lq33_0 (xq2w:Tq2w) (K:Int→ByteArray→Int→Int→(List Eng.V)→Bool→Bool→(List Eng.V)→Bool→Bool→(List Eng.V)→Bool→Bool→Prop) (a1:(List Eng.V)) (a2:(List Eng.V)) (a3:(List Eng.V)) (a4:ByteArray) (a5:Int) (a6:Int):(Q69→Prop)→Q69→Prop:=fun k7 x8 =>
 (if decide (x8.1.2.2.1 < x8.1.2.2.2.1) then
 (lt (Int.fdiv (wu64 (w64 (x8.1.2.2.1+x8.1.2.2.2.1))) 2) fun v9 =>
 xq2w (w64 v9) x8.2.1.1 x8.2.1.2.1 x8.2.1.2.2.1 x8.2.1.2.2.2.1 x8.2.1.2.2.2.2.1 x8.2.2.1.1 (fun r10 r11 r12 r13 r14 r15 r16 r17 r18 r19 r20 r21 r22 =>
 (if (!r10) then
 k7 ((((),(),(),()),x8.1.2.1,w64 (w64 v9+1),x8.1.2.2.2),(r14,r17,r20,r11,r12,()),(r13,()),())
 else
 k7 ((((),(),(),()),x8.1.2.1,x8.1.2.2.1,w64 v9,()),(r14,r17,r20,r11,r12,()),(r13,()),()))))
 else
 K x8.1.2.2.1 x8.2.1.2.2.2.1 x8.2.1.2.2.2.2.1 x8.2.2.1.1 x8.2.1.1 false true x8.2.1.2.1 false true x8.2.1.2.2.1 false true)
def Lq33_0p:Lp:=⟨114,[.trim 114,.thin 384,.trim 114,.thin 385,.trim 114,.thin 386,.trim 114],pT70,pH67,0⟩
def Yq33 (xq2w:Tq2w) (a0:Int) (a1:(List Eng.V)) (a2:(List Eng.V)) (a3:(List Eng.V)) (a4:ByteArray) (a5:Int) (a6:Int) (K:Int→ByteArray→Int→Int→(List Eng.V)→Bool→Bool→(List Eng.V)→Bool→Bool→(List Eng.V)→Bool→Bool→Prop):Prop :=
 lp (Lq33_0 xq2w K a1 a2 a3 a4 a5 a6) ((((),(),(),()),0,0,a0,()),(a1,a2,a3,a4,a5,()),(a6,()),())
def Xq33:Tq33:=Yq33 Xq2w
def Jq33 (X:Tq33):Inst:=mkI 116 pL71 pH67 pL6 pH68 X
def Iq33:Inst:=Jq33 Xq33
theorem Eq33 (xq2w:Tq2w):EqF Tryz.prog 26 gives Tryz.f116 [Jq2w xq2w] [Lq33_0p] (Jq33 (Yq33 xq2w)):=fun x y K=>by kernel_rfl
theorem Iq33_ok:InstOk Tryz.prog G.1 Iq33:=iok (gives:=gives) [Lq33_0p] (okCons Iq2w_ok okNil) 26 follows Tryz.func116 (by kernel_rfl) (fun x=>by kernel_rfl) (Eq33 Xq2w)
abbrev Tq3n:Type:=Q15→Int→(Int→Prop)→Prop
def Yq3n (xq33:Tq33) (a0:Q15) (a1:Int) (K:Int→Prop):Prop :=
 xq33 (↑(List.length a0.2.1):Int) a0.1 a0.2.1 a0.2.2.1 a0.2.2.2.1 a0.2.2.2.2.1 a1 (fun r2 r3 r4 r5 r6 r7 r8 r9 r10 r11 r12 r13 r14 =>
 K (w64 (r2 - 1)))
def Xq3n:Tq3n:=Yq3n Xq33
def Jq3n (X:Tq3n):Inst:=mkI 49 pL72 .nil pL6 .nil X
def Iq3n:Inst:=Jq3n Xq3n
theorem Eq3n (xq33:Tq33):EqF Tryz.prog 11 gives Tryz.f49 [Jq33 xq33] [] (Jq3n (Yq3n xq33)):=fun x y K=>by kernel_rfl
theorem Iq3n_ok:InstOk Tryz.prog G.1 Iq3n:=iok (gives:=gives) [] (okCons Iq33_ok okNil) 11 follows Tryz.func49 (by kernel_rfl) (fun x=>by kernel_rfl) (Eq3n Xq33)
abbrev Tq2h:Type:=Int→(List Eng.V)→Int→(Bool→Int→(List Eng.V)→Bool→Bool→Prop)→Prop
def Yq2h (a0:Int) (a1:(List Eng.V)) (a2:Int) (K:Bool→Int→(List Eng.V)→Bool→Bool→Prop):Prop :=
 (if 0≤a0∧a0 < (↑(List.length a1):Int) then
 (Eng.asInt IntKind.i64 (Eng.getC a1 (Int.toNat a0) (0:Nat)) False fun n3 =>
 K (decide (n3 > a2)) a2 a1 false true)
 else
 False)
def Xq2h:Tq2h:=Yq2h
def Jq2h (X:Tq2h):Inst:=mkI 180 pL66 pH74 pL1 pH73 X
def Iq2h:Inst:=Jq2h Xq2h
theorem Eq2h:EqF Tryz.prog 12 gives Tryz.f180 [] [] (Jq2h (Yq2h)):=fun x y K=>by kernel_rfl
theorem Iq2h_ok:InstOk Tryz.prog G.1 Iq2h:=iok (gives:=gives) [] okNil 12 follows Tryz.func180 (by kernel_rfl) (fun x=>by kernel_rfl) (Eq2h)
abbrev Tq2o:Type:=Int→Int→(List Eng.V)→Bool→Bool→(Int→Int→(List Eng.V)→Bool→Bool→Prop)→Prop
def Lq2o_0 (xq2h:Tq2h) (K:Int→Int→(List Eng.V)→Bool→Bool→Prop) (a1:Int) (a2:(List Eng.V)) (a3:Bool) (a4:Bool):(Q75→Prop)→Q75→Prop:=fun k5 x6 =>
 (if decide (x6.1.2.2.1 < x6.1.2.2.2.1) then
 (lt (Int.fdiv (wu64 (w64 (x6.1.2.2.1+x6.1.2.2.2.1))) 2) fun v7 =>
 xq2h (w64 v7) x6.2.1.1 x6.2.2.1.1 (fun r8 r9 r10 r11 r12 =>
 (if (!r8) then
 k5 ((((),(),(),()),x6.1.2.1,w64 (w64 v7+1),x6.1.2.2.2),(r10,()),(r9,()),(x6.2.2.2.1.1,x6.2.2.2.1.2.1,true),())
 else
 k5 ((((),(),(),()),x6.1.2.1,x6.1.2.2.1,w64 v7,()),(r10,()),(r9,()),(x6.2.2.2.1.1,x6.2.2.2.1.2.1,true),()))))
 else
 K x6.1.2.2.1 x6.2.2.1.1 x6.2.1.1 false true)
def Lq2o_0p:Lp:=⟨114,[.trim 114,.thin 2,.trim 114,.thin 384,.trim 114],pT76,pH77,0⟩
def Yq2o (xq2h:Tq2h) (a0:Int) (a1:Int) (a2:(List Eng.V)) (a3:Bool) (a4:Bool) (K:Int→Int→(List Eng.V)→Bool→Bool→Prop):Prop :=
 lp (Lq2o_0 xq2h K a1 a2 a3 a4) ((((),(),(),()),0,0,a0,()),(a2,()),(a1,()),(a2,a3,true),())
def Xq2o:Tq2o:=Yq2o Xq2h
def Jq2o (X:Tq2o):Inst:=mkI 116 pL78 pH73 pL6 pH73 X
def Iq2o:Inst:=Jq2o Xq2o
theorem Eq2o (xq2h:Tq2h):EqF Tryz.prog 26 gives Tryz.f116 [Jq2h xq2h] [Lq2o_0p] (Jq2o (Yq2o xq2h)):=fun x y K=>by kernel_rfl
theorem Iq2o_ok:InstOk Tryz.prog G.1 Iq2o:=iok (gives:=gives) [Lq2o_0p] (okCons Iq2h_ok okNil) 26 follows Tryz.func116 (by kernel_rfl) (fun x=>by kernel_rfl) (Eq2o Xq2h)
abbrev Tq3h:Type:=(List Eng.V)→Int→(Int→Prop)→Prop
def Yq3h (xq2u:Tq2u) (xq2o:Tq2o) (a0:(List Eng.V)) (a1:Int) (K:Int→Prop):Prop :=
 xq2u a0 (fun r2 r3 r4 =>
 xq2o (↑(List.length r2):Int) a1 r2 r3 r4 (fun r5 r6 r7 r8 r9 =>
 (if (r5 == 0) then
 K 0
 else
 (if 0≤w64 (r5 - 1)∧w64 (r5 - 1) < (↑(List.length r7):Int) then
 (Eng.asInt IntKind.i64 (Eng.getC r7 (Int.toNat (w64 (r5 - 1))) (1:Nat)) False fun n10 =>
 K n10)
 else
 False))))
def Xq3h:Tq3h:=Yq3h Xq2u Xq2o
def Jq3h (X:Tq3h):Inst:=mkI 120 pL79 .nil pL6 .nil X
def Iq3h:Inst:=Jq3h Xq3h
theorem Eq3h (xq2u:Tq2u) (xq2o:Tq2o):EqF Tryz.prog 20 gives Tryz.f120 [Jq2u xq2u,Jq2o xq2o] [] (Jq3h (Yq3h xq2u xq2o)):=fun x y K=>by kernel_rfl
theorem Iq3h_ok:InstOk Tryz.prog G.1 Iq3h:=iok (gives:=gives) [] (okCons Iq2u_ok (okCons Iq2o_ok okNil)) 20 follows Tryz.func120 (by kernel_rfl) (fun x=>by kernel_rfl) (Eq3h Xq2u Xq2o)
abbrev Tq40:Type:=Q15→Int→(Int→Prop)→Prop
def Yq40 (xq3h:Tq3h) (a0:Q15) (a1:Int) (K:Int→Prop):Prop :=
 xq3h a0.2.2.1 a1 (fun r2 =>
 K (w64 (a1 - r2)))
def Xq40:Tq40:=Yq40 Xq3h
def Jq40 (X:Tq40):Inst:=mkI 51 pL72 .nil pL6 .nil X
def Iq40:Inst:=Jq40 Xq40
theorem Eq40 (xq3h:Tq3h):EqF Tryz.prog 11 gives Tryz.f51 [Jq3h xq3h] [] (Jq40 (Yq40 xq3h)):=fun x y K=>by kernel_rfl
theorem Iq40_ok:InstOk Tryz.prog G.1 Iq40:=iok (gives:=gives) [] (okCons Iq3h_ok okNil) 11 follows Tryz.func51 (by kernel_rfl) (fun x=>by kernel_rfl) (Eq40 Xq3h)
abbrev Tq4y:Type:=Int→Int→(Int→Bool→Prop)→Prop
def Yq4y (a0:Int) (a1:Int) (K:Int→Bool→Prop):Prop :=
 (lt (!decide (w64 (a0+a1) > a0) == decide (a1 > 0)) fun v2 =>
 (if v2 then
 (if (a1 != 0) then
 K 0 false
 else
 K (w64 (a0+a1)) true)
 else
 K (w64 (a0+a1)) true))
def Xq4y:Tq4y:=Yq4y
def Jq4y (X:Tq4y):Inst:=mkI 130 pL24 .nil pL25 .nil X
def Iq4y:Inst:=Jq4y Xq4y
theorem Eq4y:EqF Tryz.prog 21 gives Tryz.f130 [] [] (Jq4y (Yq4y)):=fun x y K=>by kernel_rfl
theorem Iq4y_ok:InstOk Tryz.prog G.1 Iq4y:=iok (gives:=gives) [] okNil 21 follows Tryz.func130 (by kernel_rfl) (fun x=>by kernel_rfl) (Eq4y)
abbrev Tq4x:Type:=Int→Int→(Int→Int→Bool→Prop)→Prop
def Yq4x (a0:Int) (a1:Int) (K:Int→Int→Bool→Prop):Prop :=
 (if decide (a1 < 1) then
 K 0 0 false
 else
 (if a1=0 then
 False
 else
 (if a1=0 then
 False
 else
 (if decide (Int.tmod a0 a1 < 0) then
 (lt (w64 (w64 (Int.tdiv a0 a1) - 1)) fun v2 =>
 K v2 (w64 (Int.tmod a0 a1+a1)) true)
 else
 K (w64 (Int.tdiv a0 a1)) (Int.tmod a0 a1) true))))
def Xq4x:Tq4x:=Yq4x
def Jq4x (X:Tq4x):Inst:=mkI 133 pL24 .nil pL80 .nil X
def Iq4x:Inst:=Jq4x Xq4x
theorem Eq4x:EqF Tryz.prog 24 gives Tryz.f133 [] [] (Jq4x (Yq4x)):=fun x y K=>by kernel_rfl
theorem Iq4x_ok:InstOk Tryz.prog G.1 Iq4x:=iok (gives:=gives) [] okNil 24 follows Tryz.func133 (by kernel_rfl) (fun x=>by kernel_rfl) (Eq4x)
abbrev Tq4q:Type:=Int→(Int→Int→Int→Bool→Prop)→Prop
def Yq4q (xq4x:Tq4x) (a0:Int) (K:Int→Int→Int→Bool→Prop):Prop :=
 (if decide (a0 < (-719162)) then
 K 0 0 0 false
 else
 (if decide (a0 > 2932896) then
 K 0 0 0 false
 else
 xq4x (w64 (a0+719468)) 146097 (fun r1 r2 r3 =>
 (lt (w64 (r2 - w64 (Int.tdiv r2 1460))) fun v4 =>
 (lt (w64 (v4+w64 (Int.tdiv r2 36524))) fun v5 =>
 (lt (w64 (v5 - w64 (Int.tdiv r2 146096))) fun v6 =>
 (lt (w64 (365 * w64 (Int.tdiv v6 365))) fun v7 =>
 (lt (w64 (Int.tdiv (w64 (Int.tdiv v6 365)) 4)) fun v8 =>
 (lt (w64 (Int.tdiv (w64 (Int.tdiv v6 365)) 100)) fun v9 =>
 (lt (w64 (w64 (v7+v8) - v9)) fun v10 =>
 (lt (w64 (5 * w64 (r2 - v10))) fun v11 =>
 (lt (w64 (Int.tdiv (w64 (v11+2)) 153)) fun v12 =>
 (lt (w64 (w64 (153 * v12)+2)) fun v13 =>
 (lt (w64 (w64 (r2 - v10) - w64 (Int.tdiv v13 5))) fun v14 =>
 (if decide (w64 (v12+3) > 12) then
 (lt (w64 (w64 (v12+3) - 12)) fun v15 =>
 (lt (w64 (w64 (Int.tdiv v6 365)+1)) fun v16 =>
 (lt (w64 (w64 (400 * r1)+v16)) fun v17 =>
 K v17 v15 (w64 (v14+1)) true)))
 else
 (lt (w64 (w64 (400 * r1)+w64 (Int.tdiv v6 365))) fun v18 =>
 K v18 (w64 (v12+3)) (w64 (v14+1)) true))))))))))))))))
def Xq4q:Tq4q:=Yq4q Xq4x
def Jq4q (X:Tq4q):Inst:=mkI 75 pL6 .nil pL81 .nil X
def Iq4q:Inst:=Jq4q Xq4q
theorem Eq4q (xq4x:Tq4x):EqF Tryz.prog 69 gives Tryz.f75 [Jq4x xq4x] [] (Jq4q (Yq4q xq4x)):=fun x y K=>by kernel_rfl
theorem Iq4q_ok:InstOk Tryz.prog G.1 Iq4q:=iok (gives:=gives) [] (okCons Iq4x_ok okNil) 69 follows Tryz.func75 (by kernel_rfl) (fun x=>by kernel_rfl) (Eq4q Xq4x)
abbrev Tq4g:Type:=Int→(Int→Bool→Prop)→Prop
def Yq4g (xq4x:Tq4x) (xq4q:Tq4q) (a0:Int) (K:Int→Bool→Prop):Prop :=
 xq4x a0 86400 (fun r1 r2 r3 =>
 xq4q r1 (fun r4 r5 r6 r7 =>
 K r4 r7))
def Xq4g:Tq4g:=Yq4g Xq4x Xq4q
def Jq4g (X:Tq4g):Inst:=mkI 178 pL6 .nil pL25 .nil X
def Iq4g:Inst:=Jq4g Xq4g
theorem Eq4g (xq4x:Tq4x) (xq4q:Tq4q):EqF Tryz.prog 26 gives Tryz.f178 [Jq4x xq4x,Jq4q xq4q] [] (Jq4g (Yq4g xq4x xq4q)):=fun x y K=>by kernel_rfl
theorem Iq4g_ok:InstOk Tryz.prog G.1 Iq4g:=iok (gives:=gives) [] (okCons Iq4x_ok (okCons Iq4q_ok okNil)) 26 follows Tryz.func178 (by kernel_rfl) (fun x=>by kernel_rfl) (Eq4g Xq4x Xq4q)
abbrev Tq4r:Type:=Int→(Bool→Prop)→Prop
def Yq4r (a0:Int) (K:Bool→Prop):Prop :=
 (if (Int.tmod a0 (4 :Int) == 0) then
 (if (Int.tmod a0 (100 :Int) != 0) then
 K true
 else
 K (Int.tmod a0 (400 :Int) == 0))
 else
 K false)
def Xq4r:Tq4r:=Yq4r
def Jq4r (X:Tq4r):Inst:=mkI 190 pL6 .nil pL1 .nil X
def Iq4r:Inst:=Jq4r Xq4r
theorem Eq4r:EqF Tryz.prog 16 gives Tryz.f190 [] [] (Jq4r (Yq4r)):=fun x y K=>by kernel_rfl
theorem Iq4r_ok:InstOk Tryz.prog G.1 Iq4r:=iok (gives:=gives) [] okNil 16 follows Tryz.func190 (by kernel_rfl) (fun x=>by kernel_rfl) (Eq4r)
abbrev Tq4o:Type:=Int→Int→(Int→Bool→Prop)→Prop
def Yq4o (xq4r:Tq4r) (a0:Int) (a1:Int) (K:Int→Bool→Prop):Prop :=
 (if decide (a0 < 1) then
 K 0 false
 else
 (if decide (a0 > 9999) then
 K 0 false
 else
 (if decide (a1 < 1) then
 K 0 false
 else
 (if decide (a1 > 12) then
 K 0 false
 else
 (if 0≤w64 (a1 - 1)∧w64 (a1 - 1) < 12 then
 (Eng.asInt IntKind.i64 ([Eng.V.c (Value.int IntKind.i64 31),Eng.V.c (Value.int IntKind.i64 28),Eng.V.c (Value.int IntKind.i64 31),Eng.V.c (Value.int IntKind.i64 30),Eng.V.c (Value.int IntKind.i64 31),Eng.V.c (Value.int IntKind.i64 30),Eng.V.c (Value.int IntKind.i64 31),Eng.V.c (Value.int IntKind.i64 31),Eng.V.c (Value.int IntKind.i64 30),Eng.V.c (Value.int IntKind.i64 31),Eng.V.c (Value.int IntKind.i64 30),Eng.V.c (Value.int IntKind.i64 31)][Int.toNat (w64 (a1 - 1)) * (1:Nat)]?) False fun n2 =>
 (if (a1 == 2) then
 xq4r a0 (fun r3 =>
 (if r3 then
 K (w64 (n2+1)) true
 else
 K n2 true))
 else
 K n2 true))
 else
 False)))))
def Xq4o:Tq4o:=Yq4o Xq4r
def Jq4o (X:Tq4o):Inst:=mkI 151 pL24 .nil pL25 .nil X
def Iq4o:Inst:=Jq4o Xq4o
theorem Eq4o (xq4r:Tq4r):EqF Tryz.prog 34 gives Tryz.f151 [Jq4r xq4r] [] (Jq4o (Yq4o xq4r)):=fun x y K=>by kernel_rfl
theorem Iq4o_ok:InstOk Tryz.prog G.1 Iq4o:=iok (gives:=gives) [] (okCons Iq4r_ok okNil) 34 follows Tryz.func151 (by kernel_rfl) (fun x=>by kernel_rfl) (Eq4o Xq4r)
abbrev Tq3o:Type:=Int→Int→Int→(Int→Bool→Prop)→Prop
def Yq3o (xq4o:Tq4o) (xq4x:Tq4x) (a0:Int) (a1:Int) (a2:Int) (K:Int→Bool→Prop):Prop :=
 xq4o a0 a1 (fun r3 r4 =>
 (if (!r4) then
 K 0 false
 else
 (if decide (a2 < 1) then
 K 0 false
 else
 (if decide (a2 > r3) then
 K 0 false
 else
 (if decide (a1 < 3) then
 xq4x (w64 (a0 - 1)) 400 (fun r5 r6 r7 =>
 (lt (w64 (w64 (a1+12) - 3)) fun v8 =>
 (lt (w64 (w64 (153 * v8)+2)) fun v9 =>
 (lt (w64 (w64 (Int.tdiv v9 5)+a2)) fun v10 =>
 (lt (w64 (w64 (146097 * r5)+w64 (365 * r6))) fun v11 =>
 (lt (w64 (v11+w64 (Int.tdiv r6 4))) fun v12 =>
 (lt (w64 (v12 - w64 (Int.tdiv r6 100))) fun v13 =>
 (lt (w64 (v13+w64 (v10 - 1))) fun v14 =>
 K (w64 (v14 - 719468)) true))))))))
 else
 xq4x a0 400 (fun r15 r16 r17 =>
 (lt (w64 (153 * w64 (a1 - 3))) fun v18 =>
 (lt (w64 (Int.tdiv (w64 (v18+2)) 5)) fun v19 =>
 (lt (w64 (w64 (v19+a2) - 1)) fun v20 =>
 (lt (w64 (w64 (146097 * r15)+w64 (365 * r16))) fun v21 =>
 (lt (w64 (v21+w64 (Int.tdiv r16 4))) fun v22 =>
 (lt (w64 (v22 - w64 (Int.tdiv r16 100))) fun v23 =>
 (lt (w64 (w64 (v23+v20) - 719468)) fun v24 =>
 K v24 true)))))))))))))
def Xq3o:Tq3o:=Yq3o Xq4o Xq4x
def Jq3o (X:Tq3o):Inst:=mkI 92 pL20 .nil pL25 .nil X
def Iq3o:Inst:=Jq3o Xq3o
theorem Eq3o (xq4o:Tq4o) (xq4x:Tq4x):EqF Tryz.prog 65 gives Tryz.f92 [Jq4o xq4o,Jq4x xq4x] [] (Jq3o (Yq3o xq4o xq4x)):=fun x y K=>by kernel_rfl
theorem Iq3o_ok:InstOk Tryz.prog G.1 Iq3o:=iok (gives:=gives) [] (okCons Iq4o_ok (okCons Iq4x_ok okNil)) 65 follows Tryz.func92 (by kernel_rfl) (fun x=>by kernel_rfl) (Eq3o Xq4o Xq4x)
abbrev Tq4n:Type:=Int→(Int→Prop)→Prop
def Yq4n (xq4x:Tq4x) (a0:Int) (K:Int→Prop):Prop :=
 xq4x (w64 (Int.tmod a0 (7 :Int)+4)) 7 (fun r1 r2 r3 =>
 K r2)
def Xq4n:Tq4n:=Yq4n Xq4x
def Jq4n (X:Tq4n):Inst:=mkI 255 pL6 .nil pL6 .nil X
def Iq4n:Inst:=Jq4n Xq4n
theorem Eq4n (xq4x:Tq4x):EqF Tryz.prog 15 gives Tryz.f255 [Jq4x xq4x] [] (Jq4n (Yq4n xq4x)):=fun x y K=>by kernel_rfl
theorem Iq4n_ok:InstOk Tryz.prog G.1 Iq4n:=iok (gives:=gives) [] (okCons Iq4x_ok okNil) 15 follows Tryz.func255 (by kernel_rfl) (fun x=>by kernel_rfl) (Eq4n Xq4x)
abbrev Tq4s:Type:=Q45→Int→(Int→Bool→Prop)→Prop
def Yq4s (xq3o:Tq3o) (xq44:Tq44) (xq4r:Tq4r) (xq4o:Tq4o) (xq4n:Tq4n) (a0:Q45) (a1:Int) (K:Int→Bool→Prop):Prop :=
 xq3o a1 1 1 (fun r2 r3 =>
 (if (!r3) then
 K 0 false
 else
 xq44 a0 (fun r4 =>
 (if (!r4) then
 K 0 false
 else
 (if (a0.1 == 2) then
 K (w64 (r2+a0.2.1)) true
 else
 (if (a0.1 == 1) then
 (if decide (a0.2.1≤59) then
 (lt (w64 (w64 (r2 - 1)+a0.2.1)) fun v5 =>
 K v5 true)
 else
 xq4r a1 (fun r6 =>
 (if (!r6) then
 (lt (w64 (w64 (r2 - 1)+a0.2.1)) fun v7 =>
 K v7 true)
 else
 K (w64 (r2+a0.2.1)) true)))
 else
 xq3o a1 a0.2.1 1 (fun r8 r9 =>
 xq4o a1 a0.2.1 (fun r10 r11 =>
 (lt (w64 (7 * w64 (a0.2.2.1 - 1))) fun v12 =>
 xq4n r8 (fun r13 =>
 (lt (w64 (w64 (a0.2.2.2.1 - r13)+7)) fun v14 =>
 (lt (decide (w64 (Int.tmod v14 7+v12)≥r10)) fun v15 =>
 (if v15 then
 (lt (w64 (w64 (Int.tmod v14 7+v12) - 7)) fun v16 =>
 K (w64 (r8+v16)) true)
 else
 (lt (w64 (r8+w64 (Int.tmod v14 7+v12))) fun v17 =>
 K v17 true))))))))))))))
def Xq4s:Tq4s:=Yq4s Xq3o Xq44 Xq4r Xq4o Xq4n
def Jq4s (X:Tq4s):Inst:=mkI 239 pL82 .nil pL25 .nil X
def Iq4s:Inst:=Jq4s Xq4s
theorem Eq4s (xq3o:Tq3o) (xq44:Tq44) (xq4r:Tq4r) (xq4o:Tq4o) (xq4n:Tq4n):EqF Tryz.prog 83 gives Tryz.f239 [Jq3o xq3o,Jq44 xq44,Jq4r xq4r,Jq4o xq4o,Jq4n xq4n] [] (Jq4s (Yq4s xq3o xq44 xq4r xq4o xq4n)):=fun x y K=>by kernel_rfl
theorem Iq4s_ok:InstOk Tryz.prog G.1 Iq4s:=iok (gives:=gives) [] (okCons Iq3o_ok (okCons Iq44_ok (okCons Iq4r_ok (okCons Iq4o_ok (okCons Iq4n_ok okNil))))) 83 follows Tryz.func239 (by kernel_rfl) (fun x=>by kernel_rfl) (Eq4s Xq3o Xq44 Xq4r Xq4o Xq4n)
abbrev Tq4u:Type:=Q45→Int→(Int→Bool→Prop)→Prop
def Yq4u (xq4s:Tq4s) (a0:Q45) (a1:Int) (K:Int→Bool→Prop):Prop :=
 xq4s a0 a1 (fun r2 r3 =>
 (if (!r3) then
 K 0 false
 else
 (lt (w64 (w64 (r2 * 86400)+a0.2.2.2.2.1)) fun v4 =>
 K v4 true)))
def Xq4u:Tq4u:=Yq4u Xq4s
def Jq4u (X:Tq4u):Inst:=mkI 214 pL82 .nil pL25 .nil X
def Iq4u:Inst:=Jq4u Xq4u
theorem Eq4u (xq4s:Tq4s):EqF Tryz.prog 21 gives Tryz.f214 [Jq4s xq4s] [] (Jq4u (Yq4u xq4s)):=fun x y K=>by kernel_rfl
theorem Iq4u_ok:InstOk Tryz.prog G.1 Iq4u:=iok (gives:=gives) [] (okCons Iq4s_ok okNil) 21 follows Tryz.func214 (by kernel_rfl) (fun x=>by kernel_rfl) (Eq4u Xq4s)
abbrev Tq4f:Type:=Q47→Int→(Int→Int→Bool→Prop)→Prop
def Yq4f (xq43:Tq43) (xq4u:Tq4u) (a0:Q47) (a1:Int) (K:Int→Int→Bool→Prop):Prop :=
 (if (!a0.2.2.2.2.2.2.1) then
 K 0 0 false
 else
 xq43 a0 (fun r2 =>
 (if (!r2) then
 K 0 0 false
 else
 xq4u (a0.2.2.2.2.2.2.2.1,a0.2.2.2.2.2.2.2.2.1,a0.2.2.2.2.2.2.2.2.2.1,a0.2.2.2.2.2.2.2.2.2.2.1,a0.2.2.2.2.2.2.2.2.2.2.2.1,()) a1 (fun r3 r4 =>
 (if (!r4) then
 K 0 0 false
 else
 xq4u a0.2.2.2.2.2.2.2.2.2.2.2.2 a1 (fun r5 r6 =>
 K (w64 (r3 - a0.1)) (w64 (r5 - a0.2.2.2.1)) true))))))
def Xq4f:Tq4f:=Yq4f Xq43 Xq4u
def Jq4f (X:Tq4f):Inst:=mkI 179 pL83 .nil pL80 .nil X
def Iq4f:Inst:=Jq4f Xq4f
theorem Eq4f (xq43:Tq43) (xq4u:Tq4u):EqF Tryz.prog 41 gives Tryz.f179 [Jq43 xq43,Jq4u xq4u] [] (Jq4f (Yq4f xq43 xq4u)):=fun x y K=>by kernel_rfl
theorem Iq4f_ok:InstOk Tryz.prog G.1 Iq4f:=iok (gives:=gives) [] (okCons Iq43_ok (okCons Iq4u_ok okNil)) 41 follows Tryz.func179 (by kernel_rfl) (fun x=>by kernel_rfl) (Eq4f Xq43 Xq4u)
end Go.Proofs.YtbnpclndiichcaaGreatDoor
end
section
set_option linter.unusedVariables false
set_option linter.unusedSimpArgs false
namespace Go.Proofs.YtbnpclndiichcaaGreatDoor
open Go Go.Proofs.YtbnpclndiichcaaGreatDoor.Eng
set_option maxRecDepth 100000
set_option maxHeartbeats 4000000
variable {G:Gs}
abbrev Tq3f:Type:=Q47→Int→(Q32→Prop)→Prop
def Yq3f (xq4y:Tq4y) (xq4g:Tq4g) (xq4f:Tq4f) (a0:Q47) (a1:Int) (K:Q32→Prop):Prop :=
 xq4y a1 a0.1 (fun r2 r3 =>
 xq4g r2 (fun r4 r5 =>
 xq4f a0 r4 (fun r6 r7 r8 =>
 (if (!r3) then
 K (a0.1,a0.2.1,a0.2.2.1,())
 else
 (if (!r5) then
 K (a0.1,a0.2.1,a0.2.2.1,())
 else
 (if (!r8) then
 K (a0.1,a0.2.1,a0.2.2.1,())
 else
 (if decide (a1≥r6) then
 (if decide (a1 < r7) then
 K (a0.2.2.2.1,a0.2.2.2.2.1,a0.2.2.2.2.2.1,())
 else
 (if decide (r6≥r7) then
 (if decide (a1≥r6) then
 K (a0.2.2.2.1,a0.2.2.2.2.1,a0.2.2.2.2.2.1,())
 else
 (if decide (a1 < r7) then
 K (a0.2.2.2.1,a0.2.2.2.2.1,a0.2.2.2.2.2.1,())
 else
 K (a0.1,a0.2.1,a0.2.2.1,())))
 else
 K (a0.1,a0.2.1,a0.2.2.1,())))
 else
 (if decide (r6≥r7) then
 (if decide (a1≥r6) then
 K (a0.2.2.2.1,a0.2.2.2.2.1,a0.2.2.2.2.2.1,())
 else
 (if decide (a1 < r7) then
 K (a0.2.2.2.1,a0.2.2.2.2.1,a0.2.2.2.2.2.1,())
 else
 K (a0.1,a0.2.1,a0.2.2.1,())))
 else
 K (a0.1,a0.2.1,a0.2.2.1,())))))))))
def Xq3f:Tq3f:=Yq3f Xq4y Xq4g Xq4f
def Jq3f (X:Tq3f):Inst:=mkI 119 pL83 .nil pL84 .nil X
def Iq3f:Inst:=Jq3f Xq3f
theorem Eq3f (xq4y:Tq4y) (xq4g:Tq4g) (xq4f:Tq4f):EqF Tryz.prog 71 gives Tryz.f119 [Jq4y xq4y,Jq4g xq4g,Jq4f xq4f] [] (Jq3f (Yq3f xq4y xq4g xq4f)):=fun x y K=>by kernel_rfl
theorem Iq3f_ok:InstOk Tryz.prog G.1 Iq3f:=iok (gives:=gives) [] (okCons Iq4y_ok (okCons Iq4g_ok (okCons Iq4f_ok okNil))) 71 follows Tryz.func119 (by kernel_rfl) (fun x=>by kernel_rfl) (Eq3f Xq4y Xq4g Xq4f)
abbrev Tq3a:Type:=Q15→Int→(Q32→Prop)→Prop
def Yq3a (xq3n:Tq3n) (xq42:Tq42) (xq40:Tq40) (xq3f:Tq3f) (a0:Q15) (a1:Int) (K:Q32→Prop):Prop :=
 xq3n a0 a1 (fun r2 =>
 (if (!ByteArray.toList a0.2.2.2.1 == ByteArray.toList (ByteArray.mk #[])) then
 (if (w64 (r2+1) == (↑(List.length a0.2.1):Int)) then
 xq42 a0.2.2.2.1 (fun r3 r4 =>
 xq40 a0 a1 (fun r5 =>
 xq3f r3 r5 (fun r6 =>
 K r6)))
 else
 (if decide (r2 < 0) then
 (if (0 :Int)≤0∧0 < (↑(List.length a0.1):Int) then
 (Eng.asInt IntKind.i64 (Eng.getC a0.1 (0:Nat) (0:Nat)) False fun n7 =>
 (Eng.asBool (Eng.getC a0.1 (0:Nat) (1:Nat)) False fun b8 =>
 (Eng.asStr (Eng.getC a0.1 (0:Nat) (2:Nat)) False fun t9 =>
 K (n7,b8,t9,()))))
 else
 False)
 else
 (if 0≤r2∧r2 < (↑(List.length a0.2.1):Int) then
 (Eng.asInt IntKind.i64 (Eng.getC a0.2.1 (Int.toNat r2) (1:Nat)) False fun n10 =>
 (if 0≤n10∧n10 < (↑(List.length a0.1):Int) then
 (Eng.asInt IntKind.i64 (Eng.getC a0.1 (Int.toNat n10) (0:Nat)) False fun n11 =>
 (Eng.asBool (Eng.getC a0.1 (Int.toNat n10) (1:Nat)) False fun b12 =>
 (Eng.asStr (Eng.getC a0.1 (Int.toNat n10) (2:Nat)) False fun t13 =>
 K (n11,b12,t13,()))))
 else
 False))
 else
 False)))
 else
 (if decide (r2 < 0) then
 (if (0 :Int)≤0∧0 < (↑(List.length a0.1):Int) then
 (Eng.asInt IntKind.i64 (Eng.getC a0.1 (0:Nat) (0:Nat)) False fun n14 =>
 (Eng.asBool (Eng.getC a0.1 (0:Nat) (1:Nat)) False fun b15 =>
 (Eng.asStr (Eng.getC a0.1 (0:Nat) (2:Nat)) False fun t16 =>
 K (n14,b15,t16,()))))
 else
 False)
 else
 (if 0≤r2∧r2 < (↑(List.length a0.2.1):Int) then
 (Eng.asInt IntKind.i64 (Eng.getC a0.2.1 (Int.toNat r2) (1:Nat)) False fun n17 =>
 (if 0≤n17∧n17 < (↑(List.length a0.1):Int) then
 (Eng.asInt IntKind.i64 (Eng.getC a0.1 (Int.toNat n17) (0:Nat)) False fun n18 =>
 (Eng.asBool (Eng.getC a0.1 (Int.toNat n17) (1:Nat)) False fun b19 =>
 (Eng.asStr (Eng.getC a0.1 (Int.toNat n17) (2:Nat)) False fun t20 =>
 K (n18,b19,t20,()))))
 else
 False))
 else
 False))))
def Xq3a:Tq3a:=Yq3a Xq3n Xq42 Xq40 Xq3f
def Jq3a (X:Tq3a):Inst:=mkI 50 pL72 .nil pL84 .nil X
def Iq3a:Inst:=Jq3a Xq3a
theorem Eq3a (xq3n:Tq3n) (xq42:Tq42) (xq40:Tq40) (xq3f:Tq3f):EqF Tryz.prog 51 gives Tryz.f50 [Jq3n xq3n,Jq42 xq42,Jq40 xq40,Jq3f xq3f] [] (Jq3a (Yq3a xq3n xq42 xq40 xq3f)):=fun x y K=>by kernel_rfl
theorem Iq3a_ok:InstOk Tryz.prog G.1 Iq3a:=iok (gives:=gives) [] (okCons Iq3n_ok (okCons Iq42_ok (okCons Iq40_ok (okCons Iq3f_ok okNil)))) 51 follows Tryz.func50 (by kernel_rfl) (fun x=>by kernel_rfl) (Eq3a Xq3n Xq42 Xq40 Xq3f)
abbrev Tq20:Type:=Int→(List Eng.V)→Int→(Bool→Int→(List Eng.V)→Bool→Bool→Prop)→Prop
def Yq20 (a0:Int) (a1:(List Eng.V)) (a2:Int) (K:Bool→Int→(List Eng.V)→Bool→Bool→Prop):Prop :=
 (if 0≤a0∧a0 < (↑(List.length a1):Int) then
 (Eng.asInt IntKind.i64 (Eng.getC a1 (Int.toNat a0) (0:Nat)) False fun n3 =>
 K (decide (n3≥a2)) a2 a1 false true)
 else
 False)
def Xq20:Tq20:=Yq20
def Jq20 (X:Tq20):Inst:=mkI 182 pL66 pH74 pL1 pH73 X
def Iq20:Inst:=Jq20 Xq20
theorem Eq20:EqF Tryz.prog 12 gives Tryz.f182 [] [] (Jq20 (Yq20)):=fun x y K=>by kernel_rfl
theorem Iq20_ok:InstOk Tryz.prog G.1 Iq20:=iok (gives:=gives) [] okNil 12 follows Tryz.func182 (by kernel_rfl) (fun x=>by kernel_rfl) (Eq20)
abbrev Tq2n:Type:=Int→Int→(List Eng.V)→Bool→Bool→(Int→Int→(List Eng.V)→Bool→Bool→Prop)→Prop
def Lq2n_0 (xq20:Tq20) (K:Int→Int→(List Eng.V)→Bool→Bool→Prop) (a1:Int) (a2:(List Eng.V)) (a3:Bool) (a4:Bool):(Q75→Prop)→Q75→Prop:=fun k5 x6 =>
 (if decide (x6.1.2.2.1 < x6.1.2.2.2.1) then
 (lt (Int.fdiv (wu64 (w64 (x6.1.2.2.1+x6.1.2.2.2.1))) 2) fun v7 =>
 xq20 (w64 v7) x6.2.1.1 x6.2.2.1.1 (fun r8 r9 r10 r11 r12 =>
 (if (!r8) then
 k5 ((((),(),(),()),x6.1.2.1,w64 (w64 v7+1),x6.1.2.2.2),(r10,()),(r9,()),(x6.2.2.2.1.1,x6.2.2.2.1.2.1,true),())
 else
 k5 ((((),(),(),()),x6.1.2.1,x6.1.2.2.1,w64 v7,()),(r10,()),(r9,()),(x6.2.2.2.1.1,x6.2.2.2.1.2.1,true),()))))
 else
 K x6.1.2.2.1 x6.2.2.1.1 x6.2.1.1 false true)
def Lq2n_0p:Lp:=⟨114,[.trim 114,.thin 2,.trim 114,.thin 384,.trim 114],pT85,pH77,0⟩
def Yq2n (xq20:Tq20) (a0:Int) (a1:Int) (a2:(List Eng.V)) (a3:Bool) (a4:Bool) (K:Int→Int→(List Eng.V)→Bool→Bool→Prop):Prop :=
 lp (Lq2n_0 xq20 K a1 a2 a3 a4) ((((),(),(),()),0,0,a0,()),(a2,()),(a1,()),(a2,a3,true),())
def Xq2n:Tq2n:=Yq2n Xq20
def Jq2n (X:Tq2n):Inst:=mkI 116 pL86 pH73 pL6 pH73 X
def Iq2n:Inst:=Jq2n Xq2n
theorem Eq2n (xq20:Tq20):EqF Tryz.prog 26 gives Tryz.f116 [Jq20 xq20] [Lq2n_0p] (Jq2n (Yq2n xq20)):=fun x y K=>by kernel_rfl
theorem Iq2n_ok:InstOk Tryz.prog G.1 Iq2n:=iok (gives:=gives) [Lq2n_0p] (okCons Iq20_ok okNil) 26 follows Tryz.func116 (by kernel_rfl) (fun x=>by kernel_rfl) (Eq2n Xq20)
abbrev Tq35:Type:=(List Eng.V)→Int→(Int→Prop)→Prop
def Yq35 (xq2u:Tq2u) (xq2n:Tq2n) (a0:(List Eng.V)) (a1:Int) (K:Int→Prop):Prop :=
 xq2u a0 (fun r2 r3 r4 =>
 xq2n (↑(List.length r2):Int) a1 r2 r3 r4 (fun r5 r6 r7 r8 r9 =>
 (if (r5 == (↑(List.length r7):Int)) then
 K 0
 else
 (if 0≤r5∧r5 < (↑(List.length r7):Int) then
 (Eng.asInt IntKind.i64 (Eng.getC r7 (Int.toNat r5) (0:Nat)) False fun n10 =>
 (if (n10 != r6) then
 K 0
 else
 (if (r5 == 0) then
 (if (0 :Int)≤0∧0 < (↑(List.length r7):Int) then
 (Eng.asInt IntKind.i64 (Eng.getC r7 (0:Nat) (1:Nat)) False fun n11 =>
 K n11)
 else
 False)
 else
 (if 0≤r5∧r5 < (↑(List.length r7):Int) then
 (Eng.asInt IntKind.i64 (Eng.getC r7 (Int.toNat r5) (1:Nat)) False fun n12 =>
 (if 0≤w64 (r5 - 1)∧w64 (r5 - 1) < (↑(List.length r7):Int) then
 (Eng.asInt IntKind.i64 (Eng.getC r7 (Int.toNat (w64 (r5 - 1))) (1:Nat)) False fun n13 =>
 K (w64 (n12 - n13)))
 else
 False))
 else
 False))))
 else
 False))))
def Xq35:Tq35:=Yq35 Xq2u Xq2n
def Jq35 (X:Tq35):Inst:=mkI 134 pL79 .nil pL6 .nil X
def Iq35:Inst:=Jq35 Xq35
theorem Eq35 (xq2u:Tq2u) (xq2n:Tq2n):EqF Tryz.prog 45 gives Tryz.f134 [Jq2u xq2u,Jq2n xq2n] [] (Jq35 (Yq35 xq2u xq2n)):=fun x y K=>by kernel_rfl
theorem Iq35_ok:InstOk Tryz.prog G.1 Iq35:=iok (gives:=gives) [] (okCons Iq2u_ok (okCons Iq2n_ok okNil)) 45 follows Tryz.func134 (by kernel_rfl) (fun x=>by kernel_rfl) (Eq35 Xq2u Xq2n)
abbrev Tq4v:Type:=Int→(Bool→Prop)→Prop
def Yq4v (xq4q:Tq4q) (xq4o:Tq4o) (a0:Int) (K:Bool→Prop):Prop :=
 xq4q a0 (fun r1 r2 r3 r4 =>
 xq4o r1 r2 (fun r5 r6 =>
 (if r4 then
 K (r3 == r5)
 else
 K false)))
def Xq4v:Tq4v:=Yq4v Xq4q Xq4o
def Jq4v (X:Tq4v):Inst:=mkI 263 pL6 .nil pL1 .nil X
def Iq4v:Inst:=Jq4v Xq4v
theorem Eq4v (xq4q:Tq4q) (xq4o:Tq4o):EqF Tryz.prog 28 gives Tryz.f263 [Jq4q xq4q,Jq4o xq4o] [] (Jq4v (Yq4v xq4q xq4o)):=fun x y K=>by kernel_rfl
theorem Iq4v_ok:InstOk Tryz.prog G.1 Iq4v:=iok (gives:=gives) [] (okCons Iq4q_ok (okCons Iq4o_ok okNil)) 28 follows Tryz.func263 (by kernel_rfl) (fun x=>by kernel_rfl) (Eq4v Xq4q Xq4o)
abbrev Tq3q:Type:=Int→Q87→Int→(Int→Prop)→Prop
def Yq3q (xq4v:Tq4v) (a0:Int) (a1:Q87) (a2:Int) (K:Int→Prop):Prop :=
 (if decide (a0≥200) then
 K 8
 else
 (if decide (a1.1 < 730) then
 (if decide (a1.1 < 730) then
 K 9
 else
 xq4v a1.1 (fun r3 =>
 (if (!r3) then
 K 5
 else
 (if (a1.2.1 != 1) then
 (if (a1.2.1 != (-1)) then
 K 6
 else
 (if decide (a1.1≤a2) then
 K 4
 else
 K 0))
 else
 (if decide (a1.1≤a2) then
 K 4
 else
 K 0)))))
 else
 (if decide (a1.1≥2932896) then
 K 9
 else
 xq4v a1.1 (fun r4 =>
 (if (!r4) then
 K 5
 else
 (if (a1.2.1 != 1) then
 (if (a1.2.1 != (-1)) then
 K 6
 else
 (if decide (a1.1≤a2) then
 K 4
 else
 K 0))
 else
 (if decide (a1.1≤a2) then
 K 4
 else
 K 0)))))))
def Xq3q:Tq3q:=Yq3q Xq4v
def Jq3q (X:Tq3q):Inst:=mkI 250 pL88 .nil pL6 .nil X
def Iq3q:Inst:=Jq3q Xq3q
theorem Eq3q (xq4v:Tq4v):EqF Tryz.prog 36 gives Tryz.f250 [Jq4v xq4v] [] (Jq3q (Yq3q xq4v)):=fun x y K=>by kernel_rfl
theorem Iq3q_ok:InstOk Tryz.prog G.1 Iq3q:=iok (gives:=gives) [] (okCons Iq4v_ok okNil) 36 follows Tryz.func250 (by kernel_rfl) (fun x=>by kernel_rfl) (Eq3q Xq4v)
abbrev Tq46:Type:=Q89→(Int→Int→Prop)→Prop
def Lq46_0 (xq3q:Tq3q) (K:Int→Int→Prop):(Q90→Prop)→Q90→Prop:=fun k1 x2 =>
 (if decide (x2.1.2.2.2.2.2.2.1 < x2.1.2.2.2.2.2.1) then
 (if 0≤x2.1.2.2.2.2.2.2.1∧x2.1.2.2.2.2.2.2.1 < (↑(List.length x2.1.2.2.2.2.1):Int) then
 (Eng.asInt IntKind.i64 (Eng.getC x2.1.2.2.2.2.1 (Int.toNat x2.1.2.2.2.2.2.2.1) (0:Nat)) False fun n3 =>
 (Eng.asInt IntKind.i64 (Eng.getC x2.1.2.2.2.2.1 (Int.toNat x2.1.2.2.2.2.2.2.1) (1:Nat)) False fun n4 =>
 (Eng.asBool (Eng.getC x2.1.2.2.2.2.1 (Int.toNat x2.1.2.2.2.2.2.2.1) (2:Nat)) False fun b5 =>
 xq3q x2.1.2.2.2.2.2.2.1 (n3,n4,b5,()) x2.1.2.2.2.1 (fun r6 =>
 (if (r6 != 0) then
 K x2.1.2.2.2.2.2.2.1 r6
 else
 k1 (((),x2.1.2.1,x2.1.2.2.1,n3,x2.1.2.2.2.2.1,x2.1.2.2.2.2.2.1,w64 (x2.1.2.2.2.2.2.2.1+1),()),x2.2))))))
 else
 False)
 else
 (if x2.2.1.2.1 then
 (lt (w64 (w64 (x2.1.2.2.2.1+1) * 86400)) fun v7 =>
 (if decide (x2.2.1.2.2.1 < if 63072000 > v7 then 63072000 else v7) then
 K (↑(List.length x2.2.1.1):Int) 9
 else
 (if decide (x2.2.1.2.2.1 > 253402300799) then
 K (↑(List.length x2.2.1.1):Int) 9
 else
 K (↑(List.length x2.2.1.1):Int) 0)))
 else
 (if decide (x2.2.1.2.2.1 < 0) then
 K (↑(List.length x2.2.1.1):Int) 9
 else
 (if decide (x2.2.1.2.2.1 > 0) then
 K (↑(List.length x2.2.1.1):Int) 9
 else
 K (↑(List.length x2.2.1.1):Int) 0))))
def Lq46_0p:Lp:=⟨14366,[.trim 14366],pT91,pH92,0⟩
def Yq46 (xq3q:Tq3q) (a0:Q89) (K:Int→Int→Prop):Prop :=
 lp (Lq46_0 xq3q K) (((),0,0,729,a0.1,(↑(List.length a0.1):Int),0,()),a0,())
def Xq46:Tq46:=Yq46 Xq3q
def Jq46 (X:Tq46):Inst:=mkI 224 pL93 .nil pL24 .nil X
def Iq46:Inst:=Jq46 Xq46
theorem Eq46 (xq3q:Tq3q):EqF Tryz.prog 51 gives Tryz.f224 [Jq3q xq3q] [Lq46_0p] (Jq46 (Yq46 xq3q)):=fun x y K=>by kernel_rfl
theorem Iq46_ok:InstOk Tryz.prog G.1 Iq46:=iok (gives:=gives) [Lq46_0p] (okCons Iq3q_ok okNil) 51 follows Tryz.func224 (by kernel_rfl) (fun x=>by kernel_rfl) (Eq46 Xq3q)
abbrev Tq3z:Type:=Q89→(Bool→Prop)→Prop
def Yq3z (xq46:Tq46) (a0:Q89) (K:Bool→Prop):Prop :=
 xq46 a0 (fun r1 r2 =>
 K (r2 == 0))
def Xq3z:Tq3z:=Yq3z Xq46
def Jq3z (X:Tq3z):Inst:=mkI 194 pL93 .nil pL1 .nil X
def Iq3z:Inst:=Jq3z Xq3z
theorem Eq3z (xq46:Tq46):EqF Tryz.prog 12 gives Tryz.f194 [Jq46 xq46] [] (Jq3z (Yq3z xq46)):=fun x y K=>by kernel_rfl
theorem Iq3z_ok:InstOk Tryz.prog G.1 Iq3z:=iok (gives:=gives) [] (okCons Iq46_ok okNil) 12 follows Tryz.func194 (by kernel_rfl) (fun x=>by kernel_rfl) (Eq3z Xq46)
abbrev Tq2z:Type:=(List Eng.V)→(Q94→Bool→(List Eng.V)→Bool→Bool→Prop)→Prop
def Lq2z_0 (xq4x:Tq4x) (xq3z:Tq3z) (K:Q94→Bool→(List Eng.V)→Bool→Bool→Prop):(Q95→Prop)→Q95→Prop:=fun k4 x5 =>
 (if decide (x5.1.2.2.2.2.2.2.2.1 < x5.1.2.2.2.2.2.2.1) then
 (if 0≤x5.1.2.2.2.2.2.2.2.1∧x5.1.2.2.2.2.2.2.2.1 < (↑(List.length x5.2.2.1.1):Int) then
 (Eng.asInt IntKind.i64 (Eng.getC x5.2.2.1.1 (Int.toNat x5.1.2.2.2.2.2.2.2.1) (0:Nat)) False fun n6 =>
 (Eng.asInt IntKind.i64 (Eng.getC x5.2.2.1.1 (Int.toNat x5.1.2.2.2.2.2.2.2.1) (1:Nat)) False fun n7 =>
 (lt (if 0 < w64 (n7 - x5.1.2.2.2.1) then 0 else w64 (n7 - x5.1.2.2.2.1)) fun v8 =>
 (lt (w64 (w64 (n6 - x5.1.2.2.2.1) - v8)) fun v9 =>
 xq4x v9 86400 (fun r10 r11 r12 =>
 (if (r11 != 0) then
 K ((),false,0,()) false [] true true
 else
 (if Eng.roomOk (List.length x5.2.2.2.1+List.length [Eng.V.agg [Eng.V.c (Value.int IntKind.i64 (w64 (r10 - 1))),Eng.V.c (Value.int IntKind.i64 (w64 (n7 - x5.1.2.2.2.1))),Eng.V.c (Value.bool false)]]) (24:Nat) then
 (lt (x5.2.2.2.1++[Eng.V.agg [Eng.V.c (Value.int IntKind.i64 (w64 (r10 - 1))),Eng.V.c (Value.int IntKind.i64 (w64 (n7 - x5.1.2.2.2.1))),Eng.V.c (Value.bool false)]]) fun v13 =>
 k4 ((x5.1.1,(),x5.1.2.2.1,n7,(),(),x5.1.2.2.2.2.2.2.1,w64 (x5.1.2.2.2.2.2.2.2.1+1),()),((),x5.2.1.2),x5.2.2.1,v13,()))
 else
 False)))))))
 else
 False)
 else
 (if decide ((↑(List.length x5.2.2.1.1):Int) < (↑(List.length x5.1.1):Int)) then
 (if 0≤(↑(List.length x5.2.2.1.1):Int)∧(↑(List.length x5.2.2.1.1):Int) < (↑(List.length x5.1.1):Int) then
 (Eng.asInt IntKind.i64 (Eng.getC x5.1.1 (Int.toNat (↑(List.length x5.2.2.1.1):Int)) (0:Nat)) False fun n14 =>
 xq3z (x5.2.2.2.1,decide ((↑(List.length x5.2.2.1.1):Int) < (↑(List.length x5.1.1):Int)),w64 (n14 - x5.1.2.2.2.1),()) (fun r15 =>
 (if (!r15) then
 K ((),false,0,()) false [] true true
 else
 K ((),decide ((↑(List.length x5.2.2.1.1):Int) < (↑(List.length x5.1.1):Int)),w64 (n14 - x5.1.2.2.2.1),()) true x5.2.2.2.1 true false)))
 else
 False)
 else
 xq3z (x5.2.2.2.1,decide ((↑(List.length x5.2.2.1.1):Int) < (↑(List.length x5.1.1):Int)),x5.2.1.2.2) (fun r16 =>
 (if (!r16) then
 K ((),false,0,()) false [] true true
 else
 K ((),decide ((↑(List.length x5.2.2.1.1):Int) < (↑(List.length x5.1.1):Int)),x5.2.1.2.2) true x5.2.2.2.1 true false))))
def Lq2z_0p:Lp:=⟨114749,[.trim 114749,.trim 114749,.fatC 96 0 3 1552,.trim 114749],pT96,pH97,0⟩
def Yq2z (xq2u:Tq2u) (xq4x:Tq4x) (xq3z:Tq3z) (a0:(List Eng.V)) (K:Q94→Bool→(List Eng.V)→Bool→Bool→Prop):Prop :=
 xq2u a0 (fun r1 r2 r3 =>
 lp (Lq2z_0 xq4x xq3z K) ((a0,(),false,0,(),(),(↑(List.length r1):Int),0,()),((),false,0,()),(r1,r2,r3),[],()))
def Xq2z:Tq2z:=Yq2z Xq2u Xq4x Xq3z
def Jq2z (X:Tq2z):Inst:=mkI 156 pL29 .nil pL98 pH99 X
def Iq2z:Inst:=Jq2z Xq2z
theorem Eq2z (xq2u:Tq2u) (xq4x:Tq4x) (xq3z:Tq3z):EqF Tryz.prog 73 gives Tryz.f156 [Jq2u xq2u,Jq4x xq4x,Jq3z xq3z] [Lq2z_0p] (Jq2z (Yq2z xq2u xq4x xq3z)):=fun x y K=>by kernel_rfl
theorem Iq2z_ok:InstOk Tryz.prog G.1 Iq2z:=iok (gives:=gives) [Lq2z_0p] (okCons Iq2u_ok (okCons Iq4x_ok (okCons Iq3z_ok okNil))) 73 follows Tryz.func156 (by kernel_rfl) (fun x=>by kernel_rfl) (Eq2z Xq2u Xq4x Xq3z)
abbrev Tq36:Type:=(List Eng.V)→(Bool→Prop)→Prop
def Yq36 (xq2r:Tq2r) (xq2z:Tq2z) (a0:(List Eng.V)) (K:Bool→Prop):Prop :=
 xq2r a0 (fun r1 =>
 (if (!r1) then
 K false
 else
 xq2z a0 (fun r2 r3 r4 r5 r6 =>
 K r3)))
def Xq36:Tq36:=Yq36 Xq2r Xq2z
def Jq36 (X:Tq36):Inst:=mkI 96 pL29 .nil pL1 .nil X
def Iq36:Inst:=Jq36 Xq36
theorem Eq36 (xq2r:Tq2r) (xq2z:Tq2z):EqF Tryz.prog 14 gives Tryz.f96 [Jq2r xq2r,Jq2z xq2z] [] (Jq36 (Yq36 xq2r xq2z)):=fun x y K=>by kernel_rfl
theorem Iq36_ok:InstOk Tryz.prog G.1 Iq36:=iok (gives:=gives) [] (okCons Iq2r_ok (okCons Iq2z_ok okNil)) 14 follows Tryz.func96 (by kernel_rfl) (fun x=>by kernel_rfl) (Eq36 Xq2r Xq2z)
abbrev Tq2k:Type:=(List Eng.V)→Int→(Bool→Prop)→Prop
def Yq2k (xq2m:Tq2m) (a0:(List Eng.V)) (a1:Int) (K:Bool→Prop):Prop :=
 xq2m a0 (fun r2 r3 =>
 (if r3 then
 K (decide (a1≥r2))
 else
 K false))
def Xq2k:Tq2k:=Yq2k Xq2m
def Jq2k (X:Tq2k):Inst:=mkI 131 pL79 .nil pL1 .nil X
def Iq2k:Inst:=Jq2k Xq2k
theorem Eq2k (xq2m:Tq2m):EqF Tryz.prog 18 gives Tryz.f131 [Jq2m xq2m] [] (Jq2k (Yq2k xq2m)):=fun x y K=>by kernel_rfl
theorem Iq2k_ok:InstOk Tryz.prog G.1 Iq2k:=iok (gives:=gives) [] (okCons Iq2m_ok okNil) 18 follows Tryz.func131 (by kernel_rfl) (fun x=>by kernel_rfl) (Eq2k Xq2m)
abbrev Tq4i:Type:=(List Eng.V)→Int→(Int→Int→Int→Prop)→Prop
def Yq4i (xq4y:Tq4y) (xq36:Tq36) (xq2k:Tq2k) (xq3h:Tq3h) (xq4w:Tq4w) (xq4x:Tq4x) (xq35:Tq35) (a0:(List Eng.V)) (a1:Int) (K:Int→Int→Int→Prop):Prop :=
 xq4y a1 63072000 (fun r2 r3 =>
 xq36 a0 (fun r4 =>
 (if (!r4) then
 K 0 0 1
 else
 (if decide (a1 < 0) then
 K 0 0 9
 else
 (if r3 then
 xq2k a0 r2 (fun r5 =>
 (if r5 then
 K 0 0 10
 else
 (if (!r3) then
 xq2k a0 9223372036854775807 (fun r6 =>
 (if r6 then
 K 0 0 10
 else
 (if (!r3) then
 K 0 0 9
 else
 xq3h a0 r2 (fun r7 =>
 xq4w r2 r7 (fun r8 r9 =>
 xq4x r8 86400 (fun r10 r11 r12 =>
 xq35 a0 r2 (fun r13 =>
 (if decide (r13 > 0) then
 (if (!r9) then
 K 0 0 9
 else
 (if decide (r10 > 2932896) then
 K 0 0 9
 else
 K r10 (w64 (r11+1)) 0))
 else
 (if (!r9) then
 K 0 0 9
 else
 (if decide (r10 > 2932896) then
 K 0 0 9
 else
 K r10 r11 0))))))))))
 else
 (if (!r3) then
 K 0 0 9
 else
 xq3h a0 r2 (fun r14 =>
 xq4w r2 r14 (fun r15 r16 =>
 xq4x r15 86400 (fun r17 r18 r19 =>
 xq35 a0 r2 (fun r20 =>
 (if decide (r20 > 0) then
 (if (!r16) then
 K 0 0 9
 else
 (if decide (r17 > 2932896) then
 K 0 0 9
 else
 K r17 (w64 (r18+1)) 0))
 else
 (if (!r16) then
 K 0 0 9
 else
 (if decide (r17 > 2932896) then
 K 0 0 9
 else
 K r17 r18 0)))))))))))
 else
 (if (!r3) then
 xq2k a0 9223372036854775807 (fun r21 =>
 (if r21 then
 K 0 0 10
 else
 (if (!r3) then
 K 0 0 9
 else
 xq3h a0 r2 (fun r22 =>
 xq4w r2 r22 (fun r23 r24 =>
 xq4x r23 86400 (fun r25 r26 r27 =>
 xq35 a0 r2 (fun r28 =>
 (if decide (r28 > 0) then
 (if (!r24) then
 K 0 0 9
 else
 (if decide (r25 > 2932896) then
 K 0 0 9
 else
 K r25 (w64 (r26+1)) 0))
 else
 (if (!r24) then
 K 0 0 9
 else
 (if decide (r25 > 2932896) then
 K 0 0 9
 else
 K r25 r26 0))))))))))
 else
 (if (!r3) then
 K 0 0 9
 else
 xq3h a0 r2 (fun r29 =>
 xq4w r2 r29 (fun r30 r31 =>
 xq4x r30 86400 (fun r32 r33 r34 =>
 xq35 a0 r2 (fun r35 =>
 (if decide (r35 > 0) then
 (if (!r31) then
 K 0 0 9
 else
 (if decide (r32 > 2932896) then
 K 0 0 9
 else
 K r32 (w64 (r33+1)) 0))
 else
 (if (!r31) then
 K 0 0 9
 else
 (if decide (r32 > 2932896) then
 K 0 0 9
 else
 K r32 r33 0))))))))))))))
def Xq4i:Tq4i:=Yq4i Xq4y Xq36 Xq2k Xq3h Xq4w Xq4x Xq35
def Jq4i (X:Tq4i):Inst:=mkI 72 pL79 .nil pL20 .nil X
def Iq4i:Inst:=Jq4i Xq4i
theorem Eq4i (xq4y:Tq4y) (xq36:Tq36) (xq2k:Tq2k) (xq3h:Tq3h) (xq4w:Tq4w) (xq4x:Tq4x) (xq35:Tq35):EqF Tryz.prog 69 gives Tryz.f72 [Jq4y xq4y,Jq36 xq36,Jq2k xq2k,Jq3h xq3h,Jq4w xq4w,Jq4x xq4x,Jq35 xq35] [] (Jq4i (Yq4i xq4y xq36 xq2k xq3h xq4w xq4x xq35)):=fun x y K=>by kernel_rfl
theorem Iq4i_ok:InstOk Tryz.prog G.1 Iq4i:=iok (gives:=gives) [] (okCons Iq4y_ok (okCons Iq36_ok (okCons Iq2k_ok (okCons Iq3h_ok (okCons Iq4w_ok (okCons Iq4x_ok (okCons Iq35_ok okNil))))))) 69 follows Tryz.func72 (by kernel_rfl) (fun x=>by kernel_rfl) (Eq4i Xq4y Xq36 Xq2k Xq3h Xq4w Xq4x Xq35)
abbrev Tq2v:Type:=Q87→Int→(Int→Prop)→Prop
def Yq2v (a0:Q87) (a1:Int) (K:Int→Prop):Prop :=
 K (w64 (a0.1 - a1))
def Xq2v:Tq2v:=Yq2v
def Jq2v (X:Tq2v):Inst:=mkI 249 pL100 .nil pL6 .nil X
def Iq2v:Inst:=Jq2v Xq2v
theorem Eq2v:EqF Tryz.prog 9 gives Tryz.f249 [] [] (Jq2v (Yq2v)):=fun x y K=>by kernel_rfl
theorem Iq2v_ok:InstOk Tryz.prog G.1 Iq2v:=iok (gives:=gives) [] okNil 9 follows Tryz.func249 (by kernel_rfl) (fun x=>by kernel_rfl) (Eq2v)
abbrev Tq00:Type:=(List Eng.V)→Int→(Int→Bool→Prop)→Prop
def Lq00_0 (xq2v:Tq2v) (K:Int→Bool→Prop):(Q101→Prop)→Q101→Prop:=fun k2 x3 =>
 (if decide (x3.1.2.2.2.2.2.2.1 < x3.1.2.2.2.2.2.2.2.1) then
 (lt (Int.fdiv (wu64 (w64 (x3.1.2.2.2.2.2.2.1+x3.1.2.2.2.2.2.2.2.1))) 2) fun v4 =>
 (if 0≤w64 v4∧w64 v4 < (↑(List.length x3.1.1):Int) then
 (Eng.asInt IntKind.i64 (Eng.getC x3.1.1 (Int.toNat (w64 v4)) (0:Nat)) False fun n5 =>
 (Eng.asInt IntKind.i64 (Eng.getC x3.1.1 (Int.toNat (w64 v4)) (1:Nat)) False fun n6 =>
 (Eng.asBool (Eng.getC x3.1.1 (Int.toNat (w64 v4)) (2:Nat)) False fun b7 =>
 xq2v (n5,n6,b7,()) x3.1.2.1 (fun r8 =>
 (if decide (r8 < 0) then
 k2 ((x3.1.1,x3.1.2.1,((),()),x3.1.2.2.2.1,x3.1.2.2.2.2.1,x3.1.2.2.2.2.2.1,w64 (w64 v4+1),x3.1.2.2.2.2.2.2.2),())
 else
 k2 ((x3.1.1,x3.1.2.1,((),()),x3.1.2.2.2.1,x3.1.2.2.2.2.1,x3.1.2.2.2.2.2.1,x3.1.2.2.2.2.2.2.1,w64 v4,()),()))))))
 else
 False))
 else
 (if decide (x3.1.2.2.2.2.2.2.1 < x3.1.2.2.2.2.2.1) then
 (if 0≤x3.1.2.2.2.2.2.2.1∧x3.1.2.2.2.2.2.2.1 < (↑(List.length x3.1.1):Int) then
 (Eng.asInt IntKind.i64 (Eng.getC x3.1.1 (Int.toNat x3.1.2.2.2.2.2.2.1) (0:Nat)) False fun n9 =>
 (Eng.asInt IntKind.i64 (Eng.getC x3.1.1 (Int.toNat x3.1.2.2.2.2.2.2.1) (1:Nat)) False fun n10 =>
 (Eng.asBool (Eng.getC x3.1.1 (Int.toNat x3.1.2.2.2.2.2.2.1) (2:Nat)) False fun b11 =>
 xq2v (n9,n10,b11,()) x3.1.2.1 (fun r12 =>
 K x3.1.2.2.2.2.2.2.1 (r12 == 0)))))
 else
 False)
 else
 K x3.1.2.2.2.2.2.2.1 false))
def Lq00_0p:Lp:=⟨1991,[.trim 1991],pT102,.nil,0⟩
def Yq00 (xq2v:Tq2v) (a0:(List Eng.V)) (a1:Int) (K:Int→Bool→Prop):Prop :=
 lp (Lq00_0 xq2v K) ((a0,a1,((),()),0,false,(↑(List.length a0):Int),0,(↑(List.length a0):Int),()),())
def Xq00:Tq00:=Yq00 Xq2v
def Jq00 (X:Tq00):Inst:=mkI 248 pL103 .nil pL25 .nil X
def Iq00:Inst:=Jq00 Xq00
theorem Eq00 (xq2v:Tq2v):EqF Tryz.prog 49 gives Tryz.f248 [Jq2v xq2v] [Lq00_0p] (Jq00 (Yq00 xq2v)):=fun x y K=>by kernel_rfl
theorem Iq00_ok:InstOk Tryz.prog G.1 Iq00:=iok (gives:=gives) [Lq00_0p] (okCons Iq2v_ok okNil) 49 follows Tryz.func248 (by kernel_rfl) (fun x=>by kernel_rfl) (Eq00 Xq2v)
abbrev Tq45:Type:=(List Eng.V)→Int→(Int→Prop)→Prop
def Yq45 (xq2z:Tq2z) (xq00:Tq00) (a0:(List Eng.V)) (a1:Int) (K:Int→Prop):Prop :=
 xq2z a0 (fun r2 r3 r4 r5 r6 =>
 xq00 r4 a1 (fun r7 r8 =>
 (if (!r8) then
 K 0
 else
 (if 0≤r7∧r7 < (↑(List.length r4):Int) then
 (Eng.asInt IntKind.i64 (Eng.getC r4 (Int.toNat r7) (1:Nat)) False fun n9 =>
 K n9)
 else
 False))))
def Xq45:Tq45:=Yq45 Xq2z Xq00
def Jq45 (X:Tq45):Inst:=mkI 223 pL79 .nil pL6 .nil X
def Iq45:Inst:=Jq45 Xq45
theorem Eq45 (xq2z:Tq2z) (xq00:Tq00):EqF Tryz.prog 29 gives Tryz.f223 [Jq2z xq2z,Jq00 xq00] [] (Jq45 (Yq45 xq2z xq00)):=fun x y K=>by kernel_rfl
theorem Iq45_ok:InstOk Tryz.prog G.1 Iq45:=iok (gives:=gives) [] (okCons Iq2z_ok (okCons Iq00_ok okNil)) 29 follows Tryz.func223 (by kernel_rfl) (fun x=>by kernel_rfl) (Eq45 Xq2z Xq00)
abbrev Tq2t:Type:=(List Eng.V)→Int→(Int→Int→Prop)→Prop
def Yq2t (xq36:Tq36) (xq45:Tq45) (a0:(List Eng.V)) (a1:Int) (K:Int→Int→Prop):Prop :=
 xq36 a0 (fun r2 =>
 (if (!r2) then
 K 0 1
 else
 (if decide (a1 < 730) then
 (if decide (a1 < 730) then
 K 0 9
 else
 xq45 a0 a1 (fun r3 =>
 K (w64 (86400+r3)) 0))
 else
 (if decide (a1 > 2932896) then
 K 0 9
 else
 xq45 a0 a1 (fun r4 =>
 K (w64 (86400+r4)) 0)))))
def Xq2t:Tq2t:=Yq2t Xq36 Xq45
def Jq2t (X:Tq2t):Inst:=mkI 192 pL79 .nil pL24 .nil X
def Iq2t:Inst:=Jq2t Xq2t
theorem Eq2t (xq36:Tq36) (xq45:Tq45):EqF Tryz.prog 19 gives Tryz.f192 [Jq36 xq36,Jq45 xq45] [] (Jq2t (Yq2t xq36 xq45)):=fun x y K=>by kernel_rfl
theorem Iq2t_ok:InstOk Tryz.prog G.1 Iq2t:=iok (gives:=gives) [] (okCons Iq36_ok (okCons Iq45_ok okNil)) 19 follows Tryz.func192 (by kernel_rfl) (fun x=>by kernel_rfl) (Eq2t Xq36 Xq45)
abbrev Tq2y:Type:=(List Eng.V)→Int→(Int→Prop)→Prop
def Lq2y_0 (K:Int→Prop):(Q104→Prop)→Q104→Prop:=fun k9 x10 =>
 (if decide (x10.1.2.2.2.2.1 < (↑(List.length x10.2.2.1.1):Int)) then
 (if 0≤x10.1.2.2.2.2.1∧x10.1.2.2.2.2.1 < (↑(List.length x10.2.2.1.1):Int) then
 (Eng.asInt IntKind.i64 (Eng.getC x10.2.2.1.1 (Int.toNat x10.1.2.2.2.2.1) (0:Nat)) False fun n11 =>
 (if decide (n11 < x10.1.2.1) then
 (if 0≤x10.1.2.2.2.2.1∧x10.1.2.2.2.2.1 < (↑(List.length x10.2.2.1.1):Int) then
 (Eng.asInt IntKind.i64 (Eng.getC x10.2.2.1.1 (Int.toNat x10.1.2.2.2.2.1) (1:Nat)) False fun n12 =>
 k9 ((x10.1.1,x10.1.2.1,x10.1.2.2.1,(),w64 (x10.1.2.2.2.2.1+1),w64 (x10.1.2.2.2.2.2.1+n12),()),((),x10.2.1.2),x10.2.2))
 else
 False)
 else
 (lt (w64 (w64 (x10.1.2.1 * 86400)+x10.1.2.2.2.2.2.1)) fun v13 =>
 K v13)))
 else
 False)
 else
 (lt (w64 (w64 (x10.1.2.1 * 86400)+x10.1.2.2.2.2.2.1)) fun v14 =>
 K v14))
def Lq2y_0p:Lp:=⟨435,[.trim 435],pT105,pH106,0⟩
def Yq2y (xq2z:Tq2z) (a0:(List Eng.V)) (a1:Int) (K:Int→Prop):Prop :=
 xq2z a0 (fun r2 r3 r4 r5 r6 =>
 (if decide (0 < (↑(List.length r4):Int)) then
 (if (0 :Int)≤0∧0 < (↑(List.length r4):Int) then
 (Eng.asInt IntKind.i64 (Eng.getC r4 (0:Nat) (0:Nat)) False fun n7 =>
 (if decide (n7 < a1) then
 (if (0 :Int)≤0∧0 < (↑(List.length r4):Int) then
 (Eng.asInt IntKind.i64 (Eng.getC r4 (0:Nat) (1:Nat)) False fun n8 =>
 lp (Lq2y_0 K) ((a0,a1,0,(),1,w64 (0+n8),()),((),r2.2),(r4,r5,r6),()))
 else
 False)
 else
 (lt (w64 (w64 (a1 * 86400)+0)) fun v15 =>
 K v15)))
 else
 False)
 else
 (lt (w64 (w64 (a1 * 86400)+0)) fun v16 =>
 K v16)))
def Xq2y:Tq2y:=Yq2y Xq2z
def Jq2y (X:Tq2y):Inst:=mkI 193 pL79 .nil pL6 .nil X
def Iq2y:Inst:=Jq2y Xq2y
theorem Eq2y (xq2z:Tq2z):EqF Tryz.prog 43 gives Tryz.f193 [Jq2z xq2z] [Lq2y_0p] (Jq2y (Yq2y xq2z)):=fun x y K=>by kernel_rfl
theorem Iq2y_ok:InstOk Tryz.prog G.1 Iq2y:=iok (gives:=gives) [Lq2y_0p] (okCons Iq2z_ok okNil) 43 follows Tryz.func193 (by kernel_rfl) (fun x=>by kernel_rfl) (Eq2y Xq2z)
abbrev Tq48:Type:=(List Eng.V)→Int→Int→(Int→Int→Prop)→Prop
def Yq48 (xq2t:Tq2t) (xq2y:Tq2y) (xq2k:Tq2k) (a0:(List Eng.V)) (a1:Int) (a2:Int) (K:Int→Int→Prop):Prop :=
 xq2t a0 a1 (fun r3 r4 =>
 (if (r4 != 0) then
 K 0 r4
 else
 (if decide (a2 < 0) then
 (if decide (a2 < 0) then
 K 0 9
 else
 (if decide (a2≥r3) then
 K 0 11
 else
 xq2y a0 a1 (fun r5 =>
 xq2k a0 (w64 (r5+a2)) (fun r6 =>
 (if r6 then
 K 0 10
 else
 (lt (w64 (w64 (r5+a2) - 63072000)) fun v7 =>
 K v7 0))))))
 else
 (if decide (a2 > 86400) then
 K 0 9
 else
 (if decide (a2≥r3) then
 K 0 11
 else
 xq2y a0 a1 (fun r8 =>
 xq2k a0 (w64 (r8+a2)) (fun r9 =>
 (if r9 then
 K 0 10
 else
 (lt (w64 (w64 (r8+a2) - 63072000)) fun v10 =>
 K v10 0)))))))))
def Xq48:Tq48:=Yq48 Xq2t Xq2y Xq2k
def Jq48 (X:Tq48):Inst:=mkI 155 pL107 .nil pL24 .nil X
def Iq48:Inst:=Jq48 Xq48
theorem Eq48 (xq2t:Tq2t) (xq2y:Tq2y) (xq2k:Tq2k):EqF Tryz.prog 40 gives Tryz.f155 [Jq2t xq2t,Jq2y xq2y,Jq2k xq2k] [] (Jq48 (Yq48 xq2t xq2y xq2k)):=fun x y K=>by kernel_rfl
theorem Iq48_ok:InstOk Tryz.prog G.1 Iq48:=iok (gives:=gives) [] (okCons Iq2t_ok (okCons Iq2y_ok (okCons Iq2k_ok okNil))) 40 follows Tryz.func155 (by kernel_rfl) (fun x=>by kernel_rfl) (Eq48 Xq2t Xq2y Xq2k)
abbrev Tq37:Type:=Int→(Int→Int→Int→Bool→Prop)→Prop
def Yq37 (a0:Int) (K:Int→Int→Int→Bool→Prop):Prop :=
 (if decide (a0 < 0) then
 K 0 0 0 false
 else
 (if decide (a0 > 86400) then
 K 0 0 0 false
 else
 (if (a0 == 86400) then
 K 23 59 60 true
 else
 K (w64 (Int.tdiv a0 3600)) (Int.tmod (w64 (Int.tdiv a0 60)) 60) (Int.tmod a0 60) true)))
def Xq37:Tq37:=Yq37
def Jq37 (X:Tq37):Inst:=mkI 76 pL6 .nil pL81 .nil X
def Iq37:Inst:=Jq37 Xq37
theorem Eq37:EqF Tryz.prog 23 gives Tryz.f76 [] [] (Jq37 (Yq37)):=fun x y K=>by kernel_rfl
theorem Iq37_ok:InstOk Tryz.prog G.1 Iq37:=iok (gives:=gives) [] okNil 23 follows Tryz.func76 (by kernel_rfl) (fun x=>by kernel_rfl) (Eq37)
abbrev Tq3s:Type:=ByteArray→(List Eng.V)→Bool→Bool→(ByteArray→Prop)→Prop
def Lq3s_0 (K:ByteArray→Prop) (a1:(List Eng.V)) (a2:Bool) (a3:Bool):(Q108→Prop)→Q108→Prop:=fun k4 x5 =>
 (if decide (x5.1.2.2.2.2.1≥0) then
 (if 0≤x5.1.2.2.2.2.1∧x5.1.2.2.2.2.1 < (↑(List.length x5.2.2.1):Int) then
 (Eng.asInt IntKind.u8 (Eng.getC x5.2.2.1 (Int.toNat x5.1.2.2.2.2.1) (0:Nat)) False fun n6 =>
 (if (n6 != 48) then
 k4 (((),x5.1.2.1,(),w64 (x5.1.2.2.2.1 - 1),w64 (x5.1.2.2.2.2.1 - 1),()),x5.2)
 else
 (if 0≤x5.1.2.2.2.2.1∧x5.1.2.2.2.2.1 < (↑(List.length x5.2.2.1):Int) then
 (Eng.asInt IntKind.u8 (Eng.getC x5.2.2.1 (Int.toNat x5.1.2.2.2.2.1) (0:Nat)) False fun n7 =>
 (if 0≤x5.1.2.2.2.1∧x5.1.2.2.2.1 < (↑(List.length x5.2.1.1):Int) then
 (Eng.asInt IntKind.i64 (Eng.getC x5.2.1.1 (Int.toNat x5.1.2.2.2.1) (0:Nat)) False fun n8 =>
 (lt (wu8 (n7+wu8 (Int.tmod n8 10))) fun v9 =>
 (if 0≤x5.1.2.2.2.2.1∧x5.1.2.2.2.2.1 < (↑(List.length x5.2.2.1):Int) then
 (if Int.toNat x5.1.2.2.2.2.1 < List.length x5.2.2.1 then
 (if 0≤x5.1.2.2.2.1∧x5.1.2.2.2.1 < (↑(List.length x5.2.1.1):Int) then
 (Eng.asInt IntKind.i64 (Eng.getC x5.2.1.1 (Int.toNat x5.1.2.2.2.1) (0:Nat)) False fun n10 =>
 (if 0≤x5.1.2.2.2.1∧x5.1.2.2.2.1 < (↑(List.length x5.2.1.1):Int) then
 (if x5.2.1.2.2=false then
 (if Int.toNat x5.1.2.2.2.1 < List.length x5.2.1.1 then
 (lt (List.set x5.2.1.1 (Int.toNat x5.1.2.2.2.1) (Eng.setE (List.getD x5.2.1.1 (Int.toNat x5.1.2.2.2.1) Eng.V.bad) (0:Nat) [Eng.V.c (Value.int IntKind.i64 (w64 (Int.tdiv n10 10)))])) fun v11 =>
 k4 (((),x5.1.2.1,(),x5.1.2.2.2.1,w64 (x5.1.2.2.2.2.1 - 1),()),(v11,x5.2.1.2),List.set x5.2.2.1 (Int.toNat x5.1.2.2.2.2.1) (Eng.setE (List.getD x5.2.2.1 (Int.toNat x5.1.2.2.2.2.1) Eng.V.bad) (0:Nat) [Eng.V.c (Value.int IntKind.u8 v9)]),()))
 else
 False)
 else
 False)
 else
 False))
 else
 False)
 else
 False)
 else
 False)))
 else
 False))
 else
 False)))
 else
 False)
 else
 (if Eng.allU8 x5.2.2.1 then
 K (Eng.packB x5.2.2.1)
 else
 False))
def Lq3s_0p:Lp:=⟨242,[.trim 242],pT109,pH110,0⟩
def Yq3s (a0:ByteArray) (a1:(List Eng.V)) (a2:Bool) (a3:Bool) (K:ByteArray→Prop):Prop :=
 lp (Lq3s_0 K a1 a2 a3) (((),ByteArray.mk #[],(),w64 ((↑(List.length a1):Int) - 1),w64 ((↑(List.length (Eng.bytesV a0)):Int) - 1),()),(a1,a2,a3),Eng.bytesV a0,())
def Xq3s:Tq3s:=Yq3s
def Jq3s (X:Tq3s):Inst:=mkI 143 pL111 pH14 pL8 .nil X
def Iq3s:Inst:=Jq3s Xq3s
theorem Eq3s:EqF Tryz.prog 47 gives Tryz.f143 [] [Lq3s_0p] (Jq3s (Yq3s)):=fun x y K=>by kernel_rfl
theorem Iq3s_ok:InstOk Tryz.prog G.1 Iq3s:=iok (gives:=gives) [Lq3s_0p] okNil 47 follows Tryz.func143 (by kernel_rfl) (fun x=>by kernel_rfl) (Eq3s)
abbrev Tq4t:Type:=Int→Int→(Int→Bool→Prop)→Prop
def Yq4t (a0:Int) (a1:Int) (K:Int→Bool→Prop):Prop :=
 (if decide (a0 < (-719162)) then
 K 0 false
 else
 (if decide (a0 > 2932896) then
 K 0 false
 else
 (if decide (a1 < 0) then
 K 0 false
 else
 (if decide (a1 > 86400) then
 K 0 false
 else
 (lt (w64 (w64 (a0 * 86400)+if 86399 < a1 then 86399 else a1)) fun v2 =>
 K v2 true)))))
def Xq4t:Tq4t:=Yq4t
def Jq4t (X:Tq4t):Inst:=mkI 135 pL24 .nil pL25 .nil X
def Iq4t:Inst:=Jq4t Xq4t
theorem Eq4t:EqF Tryz.prog 25 gives Tryz.f135 [] [] (Jq4t (Yq4t)):=fun x y K=>by kernel_rfl
theorem Iq4t_ok:InstOk Tryz.prog G.1 Iq4t:=iok (gives:=gives) [] okNil 25 follows Tryz.func135 (by kernel_rfl) (fun x=>by kernel_rfl) (Eq4t)
abbrev Tq3t:Type:=(List Eng.V)→Int→(Int→Int→Prop)→Prop
def Yq3t (xq4i:Tq4i) (xq4t:Tq4t) (a0:(List Eng.V)) (a1:Int) (K:Int→Int→Prop):Prop :=
 xq4i a0 a1 (fun r2 r3 r4 =>
 (if (r4 == 0) then
 xq4t r2 r3 (fun r5 r6 =>
 K r5 r4)
 else
 K 0 r4))
def Xq3t:Tq3t:=Yq3t Xq4i Xq4t
def Jq3t (X:Tq3t):Inst:=mkI 73 pL79 .nil pL24 .nil X
def Iq3t:Inst:=Jq3t Xq3t
theorem Eq3t (xq4i:Tq4i) (xq4t:Tq4t):EqF Tryz.prog 25 gives Tryz.f73 [Jq4i xq4i,Jq4t xq4t] [] (Jq3t (Yq3t xq4i xq4t)):=fun x y K=>by kernel_rfl
theorem Iq3t_ok:InstOk Tryz.prog G.1 Iq3t:=iok (gives:=gives) [] (okCons Iq4i_ok (okCons Iq4t_ok okNil)) 25 follows Tryz.func73 (by kernel_rfl) (fun x=>by kernel_rfl) (Eq3t Xq4i Xq4t)
abbrev Tq4d:Type:=Int→(ByteArray→Bool→Prop)→Prop
def Yq4d (xq4q:Tq4q) (xq3s:Tq3s) (a0:Int) (K:ByteArray→Bool→Prop):Prop :=
 xq4q a0 (fun r1 r2 r3 r4 =>
 (if (!r4) then
 K (ByteArray.mk #[]) false
 else
 xq3s (ByteArray.extract (ByteArray.mk #[(48:UInt8),(48:UInt8),(48:UInt8),(48:UInt8),(45:UInt8),(48:UInt8),(48:UInt8),(45:UInt8),(48:UInt8),(48:UInt8),(84:UInt8),(48:UInt8),(48:UInt8),(58:UInt8),(48:UInt8),(48:UInt8),(58:UInt8),(48:UInt8),(48:UInt8),(90:UInt8)]) (0:Nat) (10:Nat)) ([Eng.V.c (Value.int IntKind.i64 r1),Eng.V.c (Value.int IntKind.i64 r2),Eng.V.c (Value.int IntKind.i64 r3)]) true false (fun r5 =>
 K r5 true)))
def Xq4d:Tq4d:=Yq4d Xq4q Xq3s
def Jq4d (X:Tq4d):Inst:=mkI 81 pL6 .nil pL50 .nil X
def Iq4d:Inst:=Jq4d Xq4d
theorem Eq4d (xq4q:Tq4q) (xq3s:Tq3s):EqF Tryz.prog 23 gives Tryz.f81 [Jq4q xq4q,Jq3s xq3s] [] (Jq4d (Yq4d xq4q xq3s)):=fun x y K=>by kernel_rfl
theorem Iq4d_ok:InstOk Tryz.prog G.1 Iq4d:=iok (gives:=gives) [] (okCons Iq4q_ok (okCons Iq3s_ok okNil)) 23 follows Tryz.func81 (by kernel_rfl) (fun x=>by kernel_rfl) (Eq4d Xq4q Xq3s)
abbrev Tq31:Type:=Int→Int→(Bool→Prop)→Prop
def Yq31 (a0:Int) (a1:Int) (K:Bool→Prop):Prop :=
 (if decide (a0≥0) then
 K (decide (a0≤a1))
 else
 K false)
def Xq31:Tq31:=Yq31
def Jq31 (X:Tq31):Inst:=mkI 82 pL24 .nil pL1 .nil X
def Iq31:Inst:=Jq31 Xq31
theorem Eq31:EqF Tryz.prog 12 gives Tryz.f82 [] [] (Jq31 (Yq31)):=fun x y K=>by kernel_rfl
theorem Iq31_ok:InstOk Tryz.prog G.1 Iq31:=iok (gives:=gives) [] okNil 12 follows Tryz.func82 (by kernel_rfl) (fun x=>by kernel_rfl) (Eq31)
abbrev Tq3u:Type:=Int→(ByteArray→Prop)→Prop
def Yq3u (xitoa:Titoa) (a0:Int) (K:ByteArray→Prop):Prop :=
 xitoa (w64 (Int.tdiv a0 10)) (fun r1 =>
 xitoa (Int.tmod a0 10) (fun r2 =>
 (if (↑(ByteArray.size r1+ByteArray.size r2):Int) > 9223372036854775807 then
 False
 else
 K (r1++r2))))
def Xq3u:Tq3u:=Yq3u Xitoa
def Jq3u (X:Tq3u):Inst:=mkI 84 pL6 .nil pL8 .nil X
def Iq3u:Inst:=Jq3u Xq3u
theorem Eq3u (xitoa:Titoa):EqF Tryz.prog 10 gives Tryz.f84 [Jitoa xitoa] [] (Jq3u (Yq3u xitoa)):=fun x y K=>by kernel_rfl
theorem Iq3u_ok:InstOk Tryz.prog G.1 Iq3u:=iok (gives:=gives) [] (okCons Iitoa_ok okNil) 10 follows Tryz.func84 (by kernel_rfl) (fun x=>by kernel_rfl) (Eq3u Xitoa)
abbrev Tq29:Type:=Int→(ByteArray→Prop)→Prop
def Yq29 (xq3u:Tq3u) (a0:Int) (K:ByteArray→Prop):Prop :=
 (if decide (a0 < 0) then
 (lt (w64 (Int.tdiv (w64 (0 - a0)) 3600)) fun v1 =>
 xq3u v1 (fun r2 =>
 (if (↑(ByteArray.size r2+(1:Nat)):Int) > 9223372036854775807 then
 False
 else
 (lt (w64 (Int.tdiv (w64 (0 - a0)) 60)) fun v3 =>
 xq3u (Int.tmod v3 60) (fun r4 =>
 (if (↑(ByteArray.size (r2++ByteArray.mk #[(58:UInt8)])+ByteArray.size r4):Int) > 9223372036854775807 then
 False
 else
 (lt (r2++ByteArray.mk #[(58:UInt8)]++r4) fun v5 =>
 (if (↑((1:Nat)+ByteArray.size v5):Int) > 9223372036854775807 then
 False
 else
 (if (Int.tmod (w64 (0 - a0)) (60 :Int) != 0) then
 xq3u (Int.tmod (w64 (0 - a0)) 60) (fun r6 =>
 (if (↑((1:Nat)+ByteArray.size r6):Int) > 9223372036854775807 then
 False
 else
 (if (↑(ByteArray.size (ByteArray.mk #[(45:UInt8)]++v5)+ByteArray.size (ByteArray.mk #[(58:UInt8)]++r6)):Int) > 9223372036854775807 then
 False
 else
 (lt (ByteArray.mk #[(45:UInt8)]++v5++(ByteArray.mk #[(58:UInt8)]++r6)) fun v7 =>
 K v7))))
 else
 K (ByteArray.mk #[(45:UInt8)]++v5))))))))))
 else
 xq3u (w64 (Int.tdiv a0 3600)) (fun r8 =>
 (if (↑(ByteArray.size r8+(1:Nat)):Int) > 9223372036854775807 then
 False
 else
 xq3u (Int.tmod (w64 (Int.tdiv a0 60)) 60) (fun r9 =>
 (if (↑(ByteArray.size (r8++ByteArray.mk #[(58:UInt8)])+ByteArray.size r9):Int) > 9223372036854775807 then
 False
 else
 (lt (r8++ByteArray.mk #[(58:UInt8)]++r9) fun v10 =>
 (if (↑((1:Nat)+ByteArray.size v10):Int) > 9223372036854775807 then
 False
 else
 (if (Int.tmod a0 (60 :Int) != 0) then
 xq3u (Int.tmod a0 60) (fun r11 =>
 (if (↑((1:Nat)+ByteArray.size r11):Int) > 9223372036854775807 then
 False
 else
 (if (↑(ByteArray.size (ByteArray.mk #[(43:UInt8)]++v10)+ByteArray.size (ByteArray.mk #[(58:UInt8)]++r11)):Int) > 9223372036854775807 then
 False
 else
 (lt (ByteArray.mk #[(43:UInt8)]++v10++(ByteArray.mk #[(58:UInt8)]++r11)) fun v12 =>
 K v12))))
 else
 K (ByteArray.mk #[(43:UInt8)]++v10)))))))))
def Xq29:Tq29:=Yq29 Xq3u
def Jq29 (X:Tq29):Inst:=mkI 85 pL6 .nil pL8 .nil X
def Iq29:Inst:=Jq29 Xq29
theorem Eq29 (xq3u:Tq3u):EqF Tryz.prog 29 gives Tryz.f85 [Jq3u xq3u] [] (Jq29 (Yq29 xq3u)):=fun x y K=>by kernel_rfl
theorem Iq29_ok:InstOk Tryz.prog G.1 Iq29:=iok (gives:=gives) [] (okCons Iq3u_ok okNil) 29 follows Tryz.func85 (by kernel_rfl) (fun x=>by kernel_rfl) (Eq29 Xq3u)
abbrev Tq41:Type:=Q112→(ByteArray→Bool→Prop)→Prop
def Yq41 (xq4d:Tq4d) (xq31:Tq31) (xq3r:Tq3r) (xq3u:Tq3u) (xq29:Tq29) (a0:Q112) (K:ByteArray→Bool→Prop):Prop :=
 xq4d a0.1 (fun r1 r2 =>
 xq31 a0.2.1 23 (fun r3 =>
 (if r3 then
 xq31 a0.2.2.1 59 (fun r4 =>
 (if r4 then
 xq31 a0.2.2.2.1 60 (fun r5 =>
 (if (!r2) then
 K (ByteArray.mk #[]) false
 else
 (if (!r5) then
 K (ByteArray.mk #[]) false
 else
 (if decide (a0.2.2.2.2.1 < (-89999)) then
 K (ByteArray.mk #[]) false
 else
 (if decide (a0.2.2.2.2.1 > 93599) then
 K (ByteArray.mk #[]) false
 else
 xq3r a0.2.2.2.2.2.2.1 (fun r6 =>
 (if (!r6) then
 K (ByteArray.mk #[]) false
 else
 (if (↑(ByteArray.size r1+(1:Nat)):Int) > 9223372036854775807 then
 False
 else
 xq3u a0.2.1 (fun r7 =>
 (if (↑(ByteArray.size (r1++ByteArray.mk #[(84:UInt8)])+ByteArray.size r7):Int) > 9223372036854775807 then
 False
 else
 (lt (r1++ByteArray.mk #[(84:UInt8)]++r7) fun v8 =>
 (if (↑(ByteArray.size v8+(1:Nat)):Int) > 9223372036854775807 then
 False
 else
 xq3u a0.2.2.1 (fun r9 =>
 (if (↑(ByteArray.size (v8++ByteArray.mk #[(58:UInt8)])+ByteArray.size r9):Int) > 9223372036854775807 then
 False
 else
 (lt (v8++ByteArray.mk #[(58:UInt8)]++r9) fun v10 =>
 (if (↑(ByteArray.size v10+(1:Nat)):Int) > 9223372036854775807 then
 False
 else
 xq3u a0.2.2.2.1 (fun r11 =>
 (if (↑(ByteArray.size (v10++ByteArray.mk #[(58:UInt8)])+ByteArray.size r11):Int) > 9223372036854775807 then
 False
 else
 (lt (v10++ByteArray.mk #[(58:UInt8)]++r11) fun v12 =>
 xq29 a0.2.2.2.2.1 (fun r13 =>
 (if (↑(ByteArray.size v12+ByteArray.size r13):Int) > 9223372036854775807 then
 False
 else
 (if (↑(ByteArray.size (v12++r13)+(1:Nat)):Int) > 9223372036854775807 then
 False
 else
 (lt (v12++r13++ByteArray.mk #[(32:UInt8)]) fun v14 =>
 (if (↑(ByteArray.size v14+ByteArray.size a0.2.2.2.2.2.2.1):Int) > 9223372036854775807 then
 False
 else
 K (v14++a0.2.2.2.2.2.2.1) true))))))))))))))))))))))))
 else
 (if (!r2) then
 K (ByteArray.mk #[]) false
 else
 K (ByteArray.mk #[]) false)))
 else
 (if (!r2) then
 K (ByteArray.mk #[]) false
 else
 K (ByteArray.mk #[]) false))))
def Xq41:Tq41:=Yq41 Xq4d Xq31 Xq3r Xq3u Xq29
def Jq41 (X:Tq41):Inst:=mkI 27 pL113 .nil pL50 .nil X
def Iq41:Inst:=Jq41 Xq41
theorem Eq41 (xq4d:Tq4d) (xq31:Tq31) (xq3r:Tq3r) (xq3u:Tq3u) (xq29:Tq29):EqF Tryz.prog 72 gives Tryz.f27 [Jq4d xq4d,Jq31 xq31,Jq3r xq3r,Jq3u xq3u,Jq29 xq29] [] (Jq41 (Yq41 xq4d xq31 xq3r xq3u xq29)):=fun x y K=>by kernel_rfl
theorem Iq41_ok:InstOk Tryz.prog G.1 Iq41:=iok (gives:=gives) [] (okCons Iq4d_ok (okCons Iq31_ok (okCons Iq3r_ok (okCons Iq3u_ok (okCons Iq29_ok okNil))))) 72 follows Tryz.func27 (by kernel_rfl) (fun x=>by kernel_rfl) (Eq41 Xq4d Xq31 Xq3r Xq3u Xq29)
abbrev Tq3x:Type:=ByteArray→ByteArray→(Bool→(List Eng.V)→Bool→Bool→Prop)→Prop
def Lq3x_0 (K:Bool→(List Eng.V)→Bool→Bool→Prop):(Q114→Prop)→Q114→Prop:=fun k2 x3 =>
 (if x3.2.1.2 < ByteArray.size x3.2.1.1 then
 (if decide ((↑(x3.2.1.2):Int)≥(↑(ByteArray.size x3.1.2.1):Int)) then
 K false [] true true
 else
 (if 0≤(↑(x3.2.1.2):Int)∧(↑(x3.2.1.2):Int) < (↑(ByteArray.size x3.1.2.1):Int) then
 (if (Eng.bAt x3.1.2.1 (Int.toNat (↑(x3.2.1.2):Int)) != 48) then
 (if 0≤(↑(x3.2.1.2):Int)∧(↑(x3.2.1.2):Int) < (↑(ByteArray.size x3.1.2.1):Int) then
 (if ((↑(Prod.fst (Go.Utf8.decode x3.2.1.1 x3.2.1.2)):Int) != wi32 (Eng.bAt x3.1.2.1 (Int.toNat (↑(x3.2.1.2):Int)))) then
 (if ((↑(Prod.fst (Go.Utf8.decode x3.2.1.1 x3.2.1.2)):Int) != wi32 (Eng.bAt x3.1.2.1 (Int.toNat (↑(x3.2.1.2):Int)))) then
 K false [] true true
 else
 (if 0≤(↑(x3.2.1.2):Int)∧(↑(x3.2.1.2):Int) < (↑(ByteArray.size x3.1.2.1):Int) then
 (if (Eng.bAt x3.1.2.1 (Int.toNat (↑(x3.2.1.2):Int)) != 48) then
 (if Eng.roomOk (List.length x3.2.2.1+List.length [Eng.V.c (Value.int IntKind.i64 x3.1.2.2.2.2.1)]) (8:Nat) then
 k2 ((x3.1.1,x3.1.2.1,(),x3.1.2.2.2.1,0,false,(),()),(x3.2.1.1,x3.2.1.2+Prod.snd (Go.Utf8.decode x3.2.1.1 x3.2.1.2)),x3.2.2.1++[Eng.V.c (Value.int IntKind.i64 x3.1.2.2.2.2.1)],())
 else
 False)
 else
 (lt (w64 (w64 (10 * x3.1.2.2.2.2.1)+w64 (wi32 ((↑(Prod.fst (Go.Utf8.decode x3.2.1.1 x3.2.1.2)):Int) - 48)))) fun v4 =>
 k2 ((x3.1.1,x3.1.2.1,(),x3.1.2.2.2.1,v4,true,(),()),(x3.2.1.1,x3.2.1.2+Prod.snd (Go.Utf8.decode x3.2.1.1 x3.2.1.2)),x3.2.2)))
 else
 False))
 else
 (if 0≤(↑(x3.2.1.2):Int)∧(↑(x3.2.1.2):Int) < (↑(ByteArray.size x3.1.2.1):Int) then
 (if (Eng.bAt x3.1.2.1 (Int.toNat (↑(x3.2.1.2):Int)) == 48) then
 (if decide ((↑(Prod.fst (Go.Utf8.decode x3.2.1.1 x3.2.1.2)):Int) < 48) then
 K false [] true true
 else
 (if decide ((↑(Prod.fst (Go.Utf8.decode x3.2.1.1 x3.2.1.2)):Int) > 57) then
 K false [] true true
 else
 (if 0≤(↑(x3.2.1.2):Int)∧(↑(x3.2.1.2):Int) < (↑(ByteArray.size x3.1.2.1):Int) then
 (if (Eng.bAt x3.1.2.1 (Int.toNat (↑(x3.2.1.2):Int)) != 48) then
 (if Eng.roomOk (List.length x3.2.2.1+List.length [Eng.V.c (Value.int IntKind.i64 x3.1.2.2.2.2.1)]) (8:Nat) then
 k2 ((x3.1.1,x3.1.2.1,(),x3.1.2.2.2.1,0,false,(),()),(x3.2.1.1,x3.2.1.2+Prod.snd (Go.Utf8.decode x3.2.1.1 x3.2.1.2)),x3.2.2.1++[Eng.V.c (Value.int IntKind.i64 x3.1.2.2.2.2.1)],())
 else
 False)
 else
 (lt (w64 (w64 (10 * x3.1.2.2.2.2.1)+w64 (wi32 ((↑(Prod.fst (Go.Utf8.decode x3.2.1.1 x3.2.1.2)):Int) - 48)))) fun v5 =>
 k2 ((x3.1.1,x3.1.2.1,(),x3.1.2.2.2.1,v5,true,(),()),(x3.2.1.1,x3.2.1.2+Prod.snd (Go.Utf8.decode x3.2.1.1 x3.2.1.2)),x3.2.2)))
 else
 False)))
 else
 (if 0≤(↑(x3.2.1.2):Int)∧(↑(x3.2.1.2):Int) < (↑(ByteArray.size x3.1.2.1):Int) then
 (if (Eng.bAt x3.1.2.1 (Int.toNat (↑(x3.2.1.2):Int)) != 48) then
 (if Eng.roomOk (List.length x3.2.2.1+List.length [Eng.V.c (Value.int IntKind.i64 x3.1.2.2.2.2.1)]) (8:Nat) then
 k2 ((x3.1.1,x3.1.2.1,(),x3.1.2.2.2.1,0,false,(),()),(x3.2.1.1,x3.2.1.2+Prod.snd (Go.Utf8.decode x3.2.1.1 x3.2.1.2)),x3.2.2.1++[Eng.V.c (Value.int IntKind.i64 x3.1.2.2.2.2.1)],())
 else
 False)
 else
 (lt (w64 (w64 (10 * x3.1.2.2.2.2.1)+w64 (wi32 ((↑(Prod.fst (Go.Utf8.decode x3.2.1.1 x3.2.1.2)):Int) - 48)))) fun v6 =>
 k2 ((x3.1.1,x3.1.2.1,(),x3.1.2.2.2.1,v6,true,(),()),(x3.2.1.1,x3.2.1.2+Prod.snd (Go.Utf8.decode x3.2.1.1 x3.2.1.2)),x3.2.2)))
 else
 False))
 else
 False))
 else
 False)
 else
 (if 0≤(↑(x3.2.1.2):Int)∧(↑(x3.2.1.2):Int) < (↑(ByteArray.size x3.1.2.1):Int) then
 (if (Eng.bAt x3.1.2.1 (Int.toNat (↑(x3.2.1.2):Int)) == 48) then
 (if decide ((↑(Prod.fst (Go.Utf8.decode x3.2.1.1 x3.2.1.2)):Int) < 48) then
 K false [] true true
 else
 (if decide ((↑(Prod.fst (Go.Utf8.decode x3.2.1.1 x3.2.1.2)):Int) > 57) then
 K false [] true true
 else
 (if 0≤(↑(x3.2.1.2):Int)∧(↑(x3.2.1.2):Int) < (↑(ByteArray.size x3.1.2.1):Int) then
 (if (Eng.bAt x3.1.2.1 (Int.toNat (↑(x3.2.1.2):Int)) != 48) then
 (if Eng.roomOk (List.length x3.2.2.1+List.length [Eng.V.c (Value.int IntKind.i64 x3.1.2.2.2.2.1)]) (8:Nat) then
 k2 ((x3.1.1,x3.1.2.1,(),x3.1.2.2.2.1,0,false,(),()),(x3.2.1.1,x3.2.1.2+Prod.snd (Go.Utf8.decode x3.2.1.1 x3.2.1.2)),x3.2.2.1++[Eng.V.c (Value.int IntKind.i64 x3.1.2.2.2.2.1)],())
 else
 False)
 else
 (lt (w64 (w64 (10 * x3.1.2.2.2.2.1)+w64 (wi32 ((↑(Prod.fst (Go.Utf8.decode x3.2.1.1 x3.2.1.2)):Int) - 48)))) fun v7 =>
 k2 ((x3.1.1,x3.1.2.1,(),x3.1.2.2.2.1,v7,true,(),()),(x3.2.1.1,x3.2.1.2+Prod.snd (Go.Utf8.decode x3.2.1.1 x3.2.1.2)),x3.2.2)))
 else
 False)))
 else
 (if 0≤(↑(x3.2.1.2):Int)∧(↑(x3.2.1.2):Int) < (↑(ByteArray.size x3.1.2.1):Int) then
 (if (Eng.bAt x3.1.2.1 (Int.toNat (↑(x3.2.1.2):Int)) != 48) then
 (if Eng.roomOk (List.length x3.2.2.1+List.length [Eng.V.c (Value.int IntKind.i64 x3.1.2.2.2.2.1)]) (8:Nat) then
 k2 ((x3.1.1,x3.1.2.1,(),x3.1.2.2.2.1,0,false,(),()),(x3.2.1.1,x3.2.1.2+Prod.snd (Go.Utf8.decode x3.2.1.1 x3.2.1.2)),x3.2.2.1++[Eng.V.c (Value.int IntKind.i64 x3.1.2.2.2.2.1)],())
 else
 False)
 else
 (lt (w64 (w64 (10 * x3.1.2.2.2.2.1)+w64 (wi32 ((↑(Prod.fst (Go.Utf8.decode x3.2.1.1 x3.2.1.2)):Int) - 48)))) fun v8 =>
 k2 ((x3.1.1,x3.1.2.1,(),x3.1.2.2.2.1,v8,true,(),()),(x3.2.1.1,x3.2.1.2+Prod.snd (Go.Utf8.decode x3.2.1.1 x3.2.1.2)),x3.2.2)))
 else
 False))
 else
 False))
 else
 False))
 else
 (if Eng.roomOk (List.length x3.2.2.1+List.length [Eng.V.c (Value.int IntKind.i64 x3.1.2.2.2.2.1)]) (8:Nat) then
 (if x3.1.2.2.2.2.2.1 then
 K ((↑(ByteArray.size x3.1.1):Int) == (↑(ByteArray.size x3.1.2.1):Int)) (x3.2.2.1++[Eng.V.c (Value.int IntKind.i64 x3.1.2.2.2.2.1)]) true false
 else
 K false (x3.2.2.1++[Eng.V.c (Value.int IntKind.i64 x3.1.2.2.2.2.1)]) true false)
 else
 False))
def Lq3x_0p:Lp:=⟨2291,[.trim 2291,.fat 4 1 1232,.trim 2291],pT115,pH116,0⟩
def Yq3x (a0:ByteArray) (a1:ByteArray) (K:Bool→(List Eng.V)→Bool→Bool→Prop):Prop :=
 lp (Lq3x_0 K) ((a0,a1,(),false,0,false,(),()),(a0,(0:Nat)),[],())
def Xq3x:Tq3x:=Yq3x
def Jq3x (X:Tq3x):Inst:=mkI 90 pL49 .nil pL117 pH14 X
def Iq3x:Inst:=Jq3x Xq3x
theorem Eq3x:EqF Tryz.prog 73 gives Tryz.f90 [] [Lq3x_0p] (Jq3x (Yq3x)):=fun x y K=>by kernel_rfl
theorem Iq3x_ok:InstOk Tryz.prog G.1 Iq3x:=iok (gives:=gives) [Lq3x_0p] okNil 73 follows Tryz.func90 (by kernel_rfl) (fun x=>by kernel_rfl) (Eq3x)
abbrev Tq3l:Type:=ByteArray→(Int→Bool→Prop)→Prop
def Lq3l_0 (xq29:Tq29) (K:Int→Bool→Prop):(Q118→Prop)→Q118→Prop:=fun k5 x6 =>
 (if decide (x6.1.2.2.2.2.2.1 < x6.1.2.2.2.2.1) then
 (if 0≤x6.1.2.2.2.2.2.1∧x6.1.2.2.2.2.2.1 < (↑(List.length x6.2.1.1):Int) then
 (Eng.asInt IntKind.i64 (Eng.getC x6.2.1.1 (Int.toNat x6.1.2.2.2.2.2.1) (0:Nat)) False fun n7 =>
 (if 0≤x6.1.2.2.2.2.2.1∧x6.1.2.2.2.2.2.1 < 3 then
 (Eng.asInt IntKind.i64 ([Eng.V.c (Value.int IntKind.i64 3600),Eng.V.c (Value.int IntKind.i64 60),Eng.V.c (Value.int IntKind.i64 1)][Int.toNat x6.1.2.2.2.2.2.1 * (1:Nat)]?) False fun n8 =>
 (lt (w64 (x6.1.2.1+w64 (n7 * n8))) fun v9 =>
 k5 ((x6.1.1,v9,x6.1.2.2.1,(),x6.1.2.2.2.2.1,w64 (x6.1.2.2.2.2.2.1+1),()),x6.2)))
 else
 False))
 else
 False)
 else
 (if (0 :Int)≤0∧0 < (↑(ByteArray.size x6.1.1):Int) then
 (if (Eng.bAt x6.1.1 (0:Nat) == 45) then
 xq29 (w64 (0 - x6.1.2.1)) (fun r10 =>
 K (w64 (0 - x6.1.2.1)) (ByteArray.toList r10 == ByteArray.toList x6.1.1))
 else
 xq29 x6.1.2.1 (fun r11 =>
 K x6.1.2.1 (ByteArray.toList r11 == ByteArray.toList x6.1.1)))
 else
 False))
def Lq3l_0p:Lp:=⟨120259084301,[.trim 120259084301],pT119,pH120,0⟩
def Yq3l (xq3x:Tq3x) (xq29:Tq29) (a0:ByteArray) (K:Int→Bool→Prop):Prop :=
 (if (ByteArray.toList a0 == ByteArray.toList (ByteArray.mk #[])) then
 K 0 false
 else
 (if (0 :Int)≤0∧0 < (↑(ByteArray.size a0):Int) then
 (if (Eng.bAt a0 (0:Nat) != 43) then
 (if (0 :Int)≤0∧0 < (↑(ByteArray.size a0):Int) then
 (if (Eng.bAt a0 (0:Nat) != 45) then
 K 0 false
 else
 (if decide ((↑(ByteArray.size a0):Int) > 6) then
 (if 0≤(↑(ByteArray.size a0):Int)∧(↑(ByteArray.size a0):Int)≤(↑(ByteArray.size a0):Int) then
 (if (0 :Int)≤1∧1≤(↑(ByteArray.size a0):Int) then
 xq3x (ByteArray.extract a0 (1:Nat) (Int.toNat (↑(ByteArray.size a0):Int))) (ByteArray.mk #[(48:UInt8),(48:UInt8),(58:UInt8),(48:UInt8),(48:UInt8)]++ByteArray.mk #[(58:UInt8),(48:UInt8),(48:UInt8)]) (fun r1 r2 r3 r4 =>
 (if (!r1) then
 K 0 false
 else
 lp (Lq3l_0 xq29 K) ((a0,0,r1,(),(↑(List.length r2):Int),0,()),(r2,r3,r4),())))
 else
 False)
 else
 False)
 else
 (if 0≤(↑(ByteArray.size a0):Int)∧(↑(ByteArray.size a0):Int)≤(↑(ByteArray.size a0):Int) then
 (if (0 :Int)≤1∧1≤(↑(ByteArray.size a0):Int) then
 xq3x (ByteArray.extract a0 (1:Nat) (Int.toNat (↑(ByteArray.size a0):Int))) (ByteArray.mk #[(48:UInt8),(48:UInt8),(58:UInt8),(48:UInt8),(48:UInt8)]) (fun r12 r13 r14 r15 =>
 (if (!r12) then
 K 0 false
 else
 lp (Lq3l_0 xq29 K) ((a0,0,r12,(),(↑(List.length r13):Int),0,()),(r13,r14,r15),())))
 else
 False)
 else
 False)))
 else
 False)
 else
 (if decide ((↑(ByteArray.size a0):Int) > 6) then
 (if 0≤(↑(ByteArray.size a0):Int)∧(↑(ByteArray.size a0):Int)≤(↑(ByteArray.size a0):Int) then
 (if (0 :Int)≤1∧1≤(↑(ByteArray.size a0):Int) then
 xq3x (ByteArray.extract a0 (1:Nat) (Int.toNat (↑(ByteArray.size a0):Int))) (ByteArray.mk #[(48:UInt8),(48:UInt8),(58:UInt8),(48:UInt8),(48:UInt8)]++ByteArray.mk #[(58:UInt8),(48:UInt8),(48:UInt8)]) (fun r23 r24 r25 r26 =>
 (if (!r23) then
 K 0 false
 else
 lp (Lq3l_0 xq29 K) ((a0,0,r23,(),(↑(List.length r24):Int),0,()),(r24,r25,r26),())))
 else
 False)
 else
 False)
 else
 (if 0≤(↑(ByteArray.size a0):Int)∧(↑(ByteArray.size a0):Int)≤(↑(ByteArray.size a0):Int) then
 (if (0 :Int)≤1∧1≤(↑(ByteArray.size a0):Int) then
 xq3x (ByteArray.extract a0 (1:Nat) (Int.toNat (↑(ByteArray.size a0):Int))) (ByteArray.mk #[(48:UInt8),(48:UInt8),(58:UInt8),(48:UInt8),(48:UInt8)]) (fun r34 r35 r36 r37 =>
 (if (!r34) then
 K 0 false
 else
 lp (Lq3l_0 xq29 K) ((a0,0,r34,(),(↑(List.length r35):Int),0,()),(r35,r36,r37),())))
 else
 False)
 else
 False)))
 else
 False))
def Xq3l:Tq3l:=Yq3l Xq3x Xq29
def Jq3l (X:Tq3l):Inst:=mkI 91 pL8 .nil pL25 .nil X
def Iq3l:Inst:=Jq3l Xq3l
theorem Eq3l (xq3x:Tq3x) (xq29:Tq29):EqF Tryz.prog 59 gives Tryz.f91 [Jq3x xq3x,Jq29 xq29] [Lq3l_0p] (Jq3l (Yq3l xq3x xq29)):=fun x y K=>by kernel_rfl
theorem Iq3l_ok:InstOk Tryz.prog G.1 Iq3l:=iok (gives:=gives) [Lq3l_0p] (okCons Iq3x_ok (okCons Iq29_ok okNil)) 59 follows Tryz.func91 (by kernel_rfl) (fun x=>by kernel_rfl) (Eq3l Xq3x Xq29)
abbrev Tq34:Type:=ByteArray→(Q112→Bool→Prop)→Prop
def Yq34 (xq3c:Tq3c) (xq3x:Tq3x) (xq3l:Tq3l) (xq3o:Tq3o) (xq41:Tq41) (a0:ByteArray) (K:Q112→Bool→Prop):Prop :=
 xq3c a0 (ByteArray.mk #[(32:UInt8)]) (fun r1 r2 r3 =>
 (if decide ((↑(ByteArray.size r1):Int) < 19) then
 K (0,0,0,0,0,false,ByteArray.mk #[],()) false
 else
 (if (0 :Int)≤19∧19≤(↑(ByteArray.size r1):Int) then
 xq3x (ByteArray.extract r1 (0:Nat) (19:Nat)) (ByteArray.mk #[(48:UInt8),(48:UInt8),(48:UInt8),(48:UInt8),(45:UInt8),(48:UInt8),(48:UInt8),(45:UInt8),(48:UInt8),(48:UInt8),(84:UInt8),(48:UInt8),(48:UInt8),(58:UInt8),(48:UInt8),(48:UInt8),(58:UInt8),(48:UInt8),(48:UInt8)]) (fun r4 r5 r6 r7 =>
 (if 0≤(↑(ByteArray.size r1):Int)∧(↑(ByteArray.size r1):Int)≤(↑(ByteArray.size r1):Int) then
 (if (0 :Int)≤19∧19≤(↑(ByteArray.size r1):Int) then
 xq3l (ByteArray.extract r1 (19:Nat) (Int.toNat (↑(ByteArray.size r1):Int))) (fun r8 r9 =>
 (if (!r4) then
 K (0,0,0,0,0,false,ByteArray.mk #[],()) false
 else
 (if (!r9) then
 K (0,0,0,0,0,false,ByteArray.mk #[],()) false
 else
 (if (0 :Int)≤0∧0 < (↑(List.length r5):Int) then
 (Eng.asInt IntKind.i64 (Eng.getC r5 (0:Nat) (0:Nat)) False fun n10 =>
 (if (0 :Int)≤1∧1 < (↑(List.length r5):Int) then
 (Eng.asInt IntKind.i64 (Eng.getC r5 (1:Nat) (0:Nat)) False fun n11 =>
 (if (0 :Int)≤2∧2 < (↑(List.length r5):Int) then
 (Eng.asInt IntKind.i64 (Eng.getC r5 (2:Nat) (0:Nat)) False fun n12 =>
 xq3o n10 n11 n12 (fun r13 r14 =>
 (if (0 :Int)≤3∧3 < (↑(List.length r5):Int) then
 (Eng.asInt IntKind.i64 (Eng.getC r5 (3:Nat) (0:Nat)) False fun n15 =>
 (if (0 :Int)≤4∧4 < (↑(List.length r5):Int) then
 (Eng.asInt IntKind.i64 (Eng.getC r5 (4:Nat) (0:Nat)) False fun n16 =>
 (if (0 :Int)≤5∧5 < (↑(List.length r5):Int) then
 (Eng.asInt IntKind.i64 (Eng.getC r5 (5:Nat) (0:Nat)) False fun n17 =>
 xq41 (r13,n15,n16,n17,r8,false,r2,()) (fun r18 r19 =>
 (if (!r14) then
 K (0,0,0,0,0,false,ByteArray.mk #[],()) false
 else
 (if (!r19) then
 K (0,0,0,0,0,false,ByteArray.mk #[],()) false
 else
 K (r13,n15,n16,n17,r8,false,r2,()) true))))
 else
 False))
 else
 False))
 else
 False)))
 else
 False))
 else
 False))
 else
 False))))
 else
 False)
 else
 False))
 else
 False)))
def Xq34:Tq34:=Yq34 Xq3c Xq3x Xq3l Xq3o Xq41
def Jq34 (X:Tq34):Inst:=mkI 29 pL8 .nil pL121 .nil X
def Iq34:Inst:=Jq34 Xq34
theorem Eq34 (xq3c:Tq3c) (xq3x:Tq3x) (xq3l:Tq3l) (xq3o:Tq3o) (xq41:Tq41):EqF Tryz.prog 82 gives Tryz.f29 [Jq3c xq3c,Jq3x xq3x,Jq3l xq3l,Jq3o xq3o,Jq41 xq41] [] (Jq34 (Yq34 xq3c xq3x xq3l xq3o xq41)):=fun x y K=>by kernel_rfl
theorem Iq34_ok:InstOk Tryz.prog G.1 Iq34:=iok (gives:=gives) [] (okCons Iq3c_ok (okCons Iq3x_ok (okCons Iq3l_ok (okCons Iq3o_ok (okCons Iq41_ok okNil))))) 82 follows Tryz.func29 (by kernel_rfl) (fun x=>by kernel_rfl) (Eq34 Xq3c Xq3x Xq3l Xq3o Xq41)
abbrev Tq3b:Type:=Q15→(Bool→Prop)→Prop
def Yq3b (xq3k:Tq3k) (xq36:Tq36) (a0:Q15) (K:Bool→Prop):Prop :=
 xq3k a0 (fun r1 =>
 (if r1 then
 xq36 a0.2.2.1 (fun r2 =>
 K r2)
 else
 K false))
def Xq3b:Tq3b:=Yq3b Xq3k Xq36
def Jq3b (X:Tq3b):Inst:=mkI 35 pL19 .nil pL1 .nil X
def Iq3b:Inst:=Jq3b Xq3b
theorem Eq3b (xq3k:Tq3k) (xq36:Tq36):EqF Tryz.prog 10 gives Tryz.f35 [Jq3k xq3k,Jq36 xq36] [] (Jq3b (Yq3b xq3k xq36)):=fun x y K=>by kernel_rfl
theorem Iq3b_ok:InstOk Tryz.prog G.1 Iq3b:=iok (gives:=gives) [] (okCons Iq3k_ok (okCons Iq36_ok okNil)) 10 follows Tryz.func35 (by kernel_rfl) (fun x=>by kernel_rfl) (Eq3b Xq3k Xq36)
abbrev Tq4k:Type:=Int→(Int→Int→Prop)→Prop
def Yq4k (xq4x:Tq4x) (a0:Int) (K:Int→Int→Prop):Prop :=
 xq4x a0 86400 (fun r1 r2 r3 =>
 K r1 r2)
def Xq4k:Tq4k:=Yq4k Xq4x
def Jq4k (X:Tq4k):Inst:=mkI 74 pL6 .nil pL24 .nil X
def Iq4k:Inst:=Jq4k Xq4k
theorem Eq4k (xq4x:Tq4x):EqF Tryz.prog 12 gives Tryz.f74 [Jq4x xq4x] [] (Jq4k (Yq4k xq4x)):=fun x y K=>by kernel_rfl
theorem Iq4k_ok:InstOk Tryz.prog G.1 Iq4k:=iok (gives:=gives) [] (okCons Iq4x_ok okNil) 12 follows Tryz.func74 (by kernel_rfl) (fun x=>by kernel_rfl) (Eq4k Xq4x)
abbrev Tq3d:Type:=Q15→Int→(Q112→Int→Prop)→Prop
def Yq3d (xq3b:Tq3b) (xq4i:Tq4i) (xq3t:Tq3t) (xq3a:Tq3a) (xq4k:Tq4k) (xq4q:Tq4q) (xq37:Tq37) (a0:Q15) (a1:Int) (K:Q112→Int→Prop):Prop :=
 xq3b a0 (fun r2 =>
 (if (!r2) then
 K (0,0,0,0,0,false,ByteArray.mk #[],()) 1
 else
 xq4i a0.2.2.1 a1 (fun r3 r4 r5 =>
 (if (r5 != 0) then
 K (0,0,0,0,0,false,ByteArray.mk #[],()) r5
 else
 xq3t a0.2.2.1 a1 (fun r6 r7 =>
 xq3a a0 (w64 (a1+63072000)) (fun r8 =>
 xq4k (w64 (r6+r8.1)) (fun r9 r10 =>
 xq4q r9 (fun r11 r12 r13 r14 =>
 (if (!r14) then
 K (0,0,0,0,0,false,ByteArray.mk #[],()) 9
 else
 xq37 r10 (fun r15 r16 r17 r18 =>
 (if (r4 == 86400) then
 K (r9,r15,r16,w64 (r17+1),r8) 0
 else
 K (r9,r15,r16,r17,r8) 0)))))))))))
def Xq3d:Tq3d:=Yq3d Xq3b Xq4i Xq3t Xq3a Xq4k Xq4q Xq37
def Jq3d (X:Tq3d):Inst:=mkI 25 pL72 .nil pL122 .nil X
def Iq3d:Inst:=Jq3d Xq3d
theorem Eq3d (xq3b:Tq3b) (xq4i:Tq4i) (xq3t:Tq3t) (xq3a:Tq3a) (xq4k:Tq4k) (xq4q:Tq4q) (xq37:Tq37):EqF Tryz.prog 88 gives Tryz.f25 [Jq3b xq3b,Jq4i xq4i,Jq3t xq3t,Jq3a xq3a,Jq4k xq4k,Jq4q xq4q,Jq37 xq37] [] (Jq3d (Yq3d xq3b xq4i xq3t xq3a xq4k xq4q xq37)):=fun x y K=>by kernel_rfl
theorem Iq3d_ok:InstOk Tryz.prog G.1 Iq3d:=iok (gives:=gives) [] (okCons Iq3b_ok (okCons Iq4i_ok (okCons Iq3t_ok (okCons Iq3a_ok (okCons Iq4k_ok (okCons Iq4q_ok (okCons Iq37_ok okNil))))))) 88 follows Tryz.func25 (by kernel_rfl) (fun x=>by kernel_rfl) (Eq3d Xq3b Xq4i Xq3t Xq3a Xq4k Xq4q Xq37)
abbrev Tq3w:Type:=Q15→Int→(ByteArray→Int→Prop)→Prop
def Yq3w (xq3d:Tq3d) (xq41:Tq41) (a0:Q15) (a1:Int) (K:ByteArray→Int→Prop):Prop :=
 xq3d a0 a1 (fun r2 r3 =>
 (if (r3 == 0) then
 xq41 r2 (fun r4 r5 =>
 K r4 r3)
 else
 K (ByteArray.mk #[]) r3))
def Xq3w:Tq3w:=Yq3w Xq3d Xq41
def Jq3w (X:Tq3w):Inst:=mkI 31 pL72 .nil pL61 .nil X
def Iq3w:Inst:=Jq3w Xq3w
theorem Eq3w (xq3d:Tq3d) (xq41:Tq41):EqF Tryz.prog 22 gives Tryz.f31 [Jq3d xq3d,Jq41 xq41] [] (Jq3w (Yq3w xq3d xq41)):=fun x y K=>by kernel_rfl
theorem Iq3w_ok:InstOk Tryz.prog G.1 Iq3w:=iok (gives:=gives) [] (okCons Iq3d_ok (okCons Iq41_ok okNil)) 22 follows Tryz.func31 (by kernel_rfl) (fun x=>by kernel_rfl) (Eq3w Xq3d Xq41)
abbrev Tq4m:Type:=(List Eng.V)→Int→(Int→Int→Prop)→Prop
def Yq4m (xq4k:Tq4k) (xq48:Tq48) (a0:(List Eng.V)) (a1:Int) (K:Int→Int→Prop):Prop :=
 xq4k a1 (fun r2 r3 =>
 xq48 a0 r2 r3 (fun r4 r5 =>
 K r4 r5))
def Xq4m:Tq4m:=Yq4m Xq4k Xq48
def Jq4m (X:Tq4m):Inst:=mkI 95 pL79 .nil pL24 .nil X
def Iq4m:Inst:=Jq4m Xq4m
theorem Eq4m (xq4k:Tq4k) (xq48:Tq48):EqF Tryz.prog 19 gives Tryz.f95 [Jq4k xq4k,Jq48 xq48] [] (Jq4m (Yq4m xq4k xq48)):=fun x y K=>by kernel_rfl
theorem Iq4m_ok:InstOk Tryz.prog G.1 Iq4m:=iok (gives:=gives) [] (okCons Iq4k_ok (okCons Iq48_ok okNil)) 19 follows Tryz.func95 (by kernel_rfl) (fun x=>by kernel_rfl) (Eq4m Xq4k Xq48)
abbrev Tq3j:Type:=Q15→ByteArray→(Int→Int→Prop)→Prop
def Lq3j_0 (xq3w:Tq3w) (K:Int→Int→Prop):(Q123→Prop)→Q123→Prop:=fun k13 x14 =>
 (if decide (x14.1.2.2.2.2.2.2.1 < x14.1.2.2.2.2.2.1) then
 (if 0≤x14.1.2.2.2.2.2.2.1∧x14.1.2.2.2.2.2.2.1 < (↑(List.length x14.2.2.1):Int) then
 (Eng.asInt IntKind.i64 (Eng.getC x14.2.2.1 (Int.toNat x14.1.2.2.2.2.2.2.1) (0:Nat)) False fun n15 =>
 xq3w x14.2.1 n15 (fun r16 r17 =>
 (if (r17 == 0) then
 (if (ByteArray.toList r16 == ByteArray.toList x14.1.1) then
 K n15 0
 else
 k13 ((x14.1.1,(),x14.1.2.2.1,x14.1.2.2.2.1,(),x14.1.2.2.2.2.2.1,w64 (x14.1.2.2.2.2.2.2.1+1),()),x14.2))
 else
 k13 ((x14.1.1,(),x14.1.2.2.1,x14.1.2.2.2.1,(),x14.1.2.2.2.2.2.1,w64 (x14.1.2.2.2.2.2.2.1+1),()),x14.2))))
 else
 False)
 else
 K 0 11)
def Lq3j_0p:Lp:=⟨32281802128991715382,[.trim 32281802128991715382],pT124,pH125,0⟩
def Yq3j (xq3b:Tq3b) (xq34:Tq34) (xq4m:Tq4m) (xq3w:Tq3w) (a0:Q15) (a1:ByteArray) (K:Int→Int→Prop):Prop :=
 xq3b a0 (fun r2 =>
 (if (!r2) then
 K 0 1
 else
 xq34 a1 (fun r3 r4 =>
 (if (!r4) then
 K 0 2
 else
 (lt (w64 (w64 (r3.1 * 86400)+w64 (r3.2.1 * 3600))) fun v5 =>
 (lt (w64 (v5+w64 (r3.2.2.1 * 60))) fun v6 =>
 (lt (w64 (w64 (v6+r3.2.2.2.1) - r3.2.2.2.2.1)) fun v7 =>
 xq4m a0.2.2.1 (w64 (v7 - 1)) (fun r8 r9 =>
 xq4m a0.2.2.1 v7 (fun r10 r11 =>
 (lt (↑(List.length [Eng.V.c (Value.int IntKind.i64 (w64 (r8+1))),Eng.V.c (Value.int IntKind.i64 r10)]):Int) fun v12 =>
 lp (Lq3j_0 xq3w K) ((a1,(),0,0,(),v12,0,()),a0,[Eng.V.c (Value.int IntKind.i64 (w64 (r8+1))),Eng.V.c (Value.int IntKind.i64 r10)],())))))))))))
def Xq3j:Tq3j:=Yq3j Xq3b Xq34 Xq4m Xq3w
def Jq3j (X:Tq3j):Inst:=mkI 33 pL126 .nil pL24 .nil X
def Iq3j:Inst:=Jq3j Xq3j
theorem Eq3j (xq3b:Tq3b) (xq34:Tq34) (xq4m:Tq4m) (xq3w:Tq3w):EqF Tryz.prog 83 gives Tryz.f33 [Jq3b xq3b,Jq34 xq34,Jq4m xq4m,Jq3w xq3w] [Lq3j_0p] (Jq3j (Yq3j xq3b xq34 xq4m xq3w)):=fun x y K=>by kernel_rfl
theorem Iq3j_ok:InstOk Tryz.prog G.1 Iq3j:=iok (gives:=gives) [Lq3j_0p] (okCons Iq3b_ok (okCons Iq34_ok (okCons Iq4m_ok (okCons Iq3w_ok okNil)))) 83 follows Tryz.func33 (by kernel_rfl) (fun x=>by kernel_rfl) (Eq3j Xq3b Xq34 Xq4m Xq3w)
abbrev Tq26:Type:=Q15→(Bool→Prop)→Prop
def Lq26_0 (K:Bool→Prop):(Q127→Prop)→Q127→Prop:=fun k1 x2 =>
 (if decide (x2.1.2.2.1 < (↑(List.length x2.2.1.1):Int)) then
 (if decide (x2.1.2.2.1 < 100) then
 (if 0≤x2.1.2.2.1∧x2.1.2.2.1 < (↑(List.length x2.2.1.1):Int) then
 (Eng.asStr (Eng.getC x2.2.1.1 (Int.toNat x2.1.2.2.1) (2:Nat)) False fun t3 =>
 (if decide ((↑(ByteArray.size t3):Int) > 100) then
 K false
 else
 k1 (((),x2.1.2.1,w64 (x2.1.2.2.1+1),()),x2.2)))
 else
 False)
 else
 (if decide ((↑(List.length x2.2.1.1):Int)≤100) then
 (if decide ((↑(List.length x2.2.1.2.1):Int)≤300) then
 (if decide ((↑(List.length x2.2.1.2.2.1):Int)≤300) then
 K (decide ((↑(ByteArray.size x2.2.1.2.2.2.1):Int)≤200))
 else
 K false)
 else
 K false)
 else
 K false))
 else
 (if decide ((↑(List.length x2.2.1.1):Int)≤100) then
 (if decide ((↑(List.length x2.2.1.2.1):Int)≤300) then
 (if decide ((↑(List.length x2.2.1.2.2.1):Int)≤300) then
 K (decide ((↑(ByteArray.size x2.2.1.2.2.2.1):Int)≤200))
 else
 K false)
 else
 K false)
 else
 K false))
def Lq26_0p:Lp:=⟨14,[.trim 14],pT128,pH129,0⟩
def Yq26 (a0:Q15) (K:Bool→Prop):Prop :=
 lp (Lq26_0 K) (((),false,0,()),a0,())
def Xq26:Tq26:=Yq26
def Jq26 (X:Tq26):Inst:=mkI 10 pL19 .nil pL1 .nil X
def Iq26:Inst:=Jq26 Xq26
theorem Eq26:EqF Tryz.prog 45 gives Tryz.f10 [] [Lq26_0p] (Jq26 (Yq26)):=fun x y K=>by kernel_rfl
theorem Iq26_ok:InstOk Tryz.prog G.1 Iq26:=iok (gives:=gives) [Lq26_0p] okNil 45 follows Tryz.func10 (by kernel_rfl) (fun x=>by kernel_rfl) (Eq26)
abbrev Tq13:Type:=(Bool→Prop)→Prop
def Yq13 (xq3w:Tq3w) (xq3j:Tq3j) (xq34:Tq34) (xq41:Tq41) (xq3d:Tq3d) (xq3b:Tq3b) (K:Bool→Prop):Prop :=
 xq3w ([Eng.V.agg [Eng.V.c (Value.int IntKind.i64 (-18000)),Eng.V.c (Value.bool false),Eng.V.c (Value.string (ByteArray.mk #[(69:UInt8),(83:UInt8),(84:UInt8)]))]],[],[Eng.V.agg [Eng.V.c (Value.int IntKind.i64 78796800),Eng.V.c (Value.int IntKind.i64 1)]],ByteArray.mk #[],2,()) 15724800 (fun r0 r1 =>
 xq3w ([Eng.V.agg [Eng.V.c (Value.int IntKind.i64 (-18000)),Eng.V.c (Value.bool false),Eng.V.c (Value.string (ByteArray.mk #[(69:UInt8),(83:UInt8),(84:UInt8)]))]],[],[Eng.V.agg [Eng.V.c (Value.int IntKind.i64 78796800),Eng.V.c (Value.int IntKind.i64 1)]],ByteArray.mk #[],2,()) 15724801 (fun r2 r3 =>
 xq3j ([Eng.V.agg [Eng.V.c (Value.int IntKind.i64 (-18000)),Eng.V.c (Value.bool false),Eng.V.c (Value.string (ByteArray.mk #[(69:UInt8),(83:UInt8),(84:UInt8)]))]],[],[Eng.V.agg [Eng.V.c (Value.int IntKind.i64 78796800),Eng.V.c (Value.int IntKind.i64 1)]],ByteArray.mk #[],2,()) (ByteArray.mk #[(49:UInt8),(57:UInt8),(55:UInt8),(50:UInt8),(45:UInt8),(48:UInt8),(54:UInt8),(45:UInt8),(51:UInt8),(48:UInt8),(84:UInt8),(49:UInt8),(56:UInt8),(58:UInt8),(53:UInt8),(57:UInt8),(58:UInt8),(54:UInt8),(48:UInt8),(45:UInt8),(48:UInt8),(53:UInt8),(58:UInt8),(48:UInt8),(48:UInt8),(32:UInt8),(69:UInt8),(83:UInt8),(84:UInt8)]) (fun r4 r5 =>
 xq3j ([Eng.V.agg [Eng.V.c (Value.int IntKind.i64 (-18000)),Eng.V.c (Value.bool false),Eng.V.c (Value.string (ByteArray.mk #[(69:UInt8),(83:UInt8),(84:UInt8)]))]],[],[Eng.V.agg [Eng.V.c (Value.int IntKind.i64 78796800),Eng.V.c (Value.int IntKind.i64 1)]],ByteArray.mk #[],2,()) (ByteArray.mk #[(49:UInt8),(57:UInt8),(55:UInt8),(50:UInt8),(45:UInt8),(48:UInt8),(54:UInt8),(45:UInt8),(51:UInt8),(48:UInt8),(84:UInt8),(49:UInt8),(56:UInt8),(58:UInt8),(53:UInt8),(57:UInt8),(58:UInt8),(53:UInt8),(57:UInt8),(45:UInt8),(48:UInt8),(53:UInt8),(58:UInt8),(48:UInt8),(48:UInt8),(32:UInt8),(69:UInt8),(83:UInt8),(84:UInt8)]) (fun r6 r7 =>
 xq3j ([Eng.V.agg [Eng.V.c (Value.int IntKind.i64 (-18000)),Eng.V.c (Value.bool false),Eng.V.c (Value.string (ByteArray.mk #[(69:UInt8),(83:UInt8),(84:UInt8)]))]],[],[Eng.V.agg [Eng.V.c (Value.int IntKind.i64 78796800),Eng.V.c (Value.int IntKind.i64 1)]],ByteArray.mk #[],2,()) (ByteArray.mk #[(49:UInt8),(57:UInt8),(55:UInt8),(50:UInt8),(45:UInt8),(48:UInt8),(54:UInt8),(45:UInt8),(51:UInt8),(48:UInt8),(84:UInt8),(49:UInt8),(56:UInt8),(58:UInt8),(53:UInt8),(57:UInt8),(58:UInt8),(53:UInt8),(57:UInt8),(45:UInt8),(48:UInt8),(52:UInt8),(58:UInt8),(48:UInt8),(48:UInt8),(32:UInt8),(69:UInt8),(68:UInt8),(84:UInt8)]) (fun r8 r9 =>
 xq3j ([Eng.V.agg [Eng.V.c (Value.int IntKind.i64 (-18000)),Eng.V.c (Value.bool false),Eng.V.c (Value.string (ByteArray.mk #[(69:UInt8),(83:UInt8),(84:UInt8)]))]],[],[Eng.V.agg [Eng.V.c (Value.int IntKind.i64 78796800),Eng.V.c (Value.int IntKind.i64 1)]],ByteArray.mk #[],2,()) (ByteArray.mk #[(49:UInt8),(57:UInt8),(55:UInt8),(50:UInt8),(45:UInt8),(48:UInt8),(54:UInt8),(45:UInt8),(51:UInt8),(48:UInt8),(32:UInt8),(49:UInt8),(56:UInt8),(58:UInt8),(53:UInt8),(57:UInt8),(58:UInt8),(53:UInt8),(57:UInt8)]) (fun r10 r11 =>
 xq34 (ByteArray.mk #[(50:UInt8),(48:UInt8),(48:UInt8),(48:UInt8),(45:UInt8),(48:UInt8),(49:UInt8),(45:UInt8),(48:UInt8),(49:UInt8),(84:UInt8),(48:UInt8),(48:UInt8),(58:UInt8),(48:UInt8),(48:UInt8),(58:UInt8),(48:UInt8),(48:UInt8),(43:UInt8),(48:UInt8),(53:UInt8),(58:UInt8),(51:UInt8),(48:UInt8),(58:UInt8),(49:UInt8),(53:UInt8),(32:UInt8),(76:UInt8),(77:UInt8),(84:UInt8)]) (fun r12 r13 =>
 xq41 r12 (fun r14 r15 =>
 xq34 (ByteArray.mk #[(50:UInt8),(48:UInt8),(48:UInt8),(48:UInt8),(45:UInt8),(48:UInt8),(49:UInt8),(45:UInt8),(48:UInt8),(49:UInt8),(84:UInt8),(48:UInt8),(48:UInt8),(58:UInt8),(48:UInt8),(48:UInt8),(58:UInt8),(48:UInt8),(48:UInt8),(45:UInt8),(48:UInt8),(48:UInt8),(58:UInt8),(48:UInt8),(48:UInt8),(32:UInt8),(85:UInt8),(84:UInt8),(67:UInt8)]) (fun r16 r17 =>
 xq3w ([Eng.V.agg [Eng.V.c (Value.int IntKind.i64 (-18000)),Eng.V.c (Value.bool false),Eng.V.c (Value.string (ByteArray.mk #[(69:UInt8),(83:UInt8),(84:UInt8)]))]],[],[Eng.V.agg [Eng.V.c (Value.int IntKind.i64 78796800),Eng.V.c (Value.int IntKind.i64 1)]],ByteArray.mk #[],2,()) (-1) (fun r18 r19 =>
 xq3d ([Eng.V.agg [Eng.V.c (Value.int IntKind.i64 (-18000)),Eng.V.c (Value.bool false),Eng.V.c (Value.string (ByteArray.mk #[(69:UInt8),(83:UInt8),(84:UInt8)]))]],[],[Eng.V.agg [Eng.V.c (Value.int IntKind.i64 78796800),Eng.V.c (Value.int IntKind.i64 1)]],ByteArray.mk #[],2,()) 0 (fun r20 r21 =>
 xq3w ([],[],[],ByteArray.mk #[],0,()) 0 (fun r22 r23 =>
 (lt (ByteArray.toList r0 == ByteArray.toList (ByteArray.mk #[(49:UInt8),(57:UInt8),(55:UInt8),(50:UInt8),(45:UInt8),(48:UInt8),(54:UInt8),(45:UInt8),(51:UInt8),(48:UInt8),(84:UInt8),(49:UInt8),(56:UInt8),(58:UInt8),(53:UInt8),(57:UInt8),(58:UInt8),(54:UInt8),(48:UInt8),(45:UInt8),(48:UInt8),(53:UInt8),(58:UInt8),(48:UInt8),(48:UInt8),(32:UInt8),(69:UInt8),(83:UInt8),(84:UInt8)])) fun v24 =>
 (if v24 then
 (if (r1 == 0) then
 (lt (ByteArray.toList r2 == ByteArray.toList (ByteArray.mk #[(49:UInt8),(57:UInt8),(55:UInt8),(50:UInt8),(45:UInt8),(48:UInt8),(54:UInt8),(45:UInt8),(51:UInt8),(48:UInt8),(84:UInt8),(49:UInt8),(57:UInt8),(58:UInt8),(48:UInt8),(48:UInt8),(58:UInt8),(48:UInt8),(48:UInt8),(45:UInt8),(48:UInt8),(53:UInt8),(58:UInt8),(48:UInt8),(48:UInt8),(32:UInt8),(69:UInt8),(83:UInt8),(84:UInt8)])) fun v25 =>
 (if v25 then
 (if (r3 == 0) then
 (if (r4 == 15724800) then
 (if (r5 == 0) then
 (if (r6 == 15724799) then
 (if (r7 == 0) then
 (if (r9 == 11) then
 (if (r11 == 2) then
 (if r13 then
 (if (r12.2.2.2.2.1 == 19815) then
 (lt (ByteArray.toList r14 == ByteArray.toList (ByteArray.mk #[(50:UInt8),(48:UInt8),(48:UInt8),(48:UInt8),(45:UInt8),(48:UInt8),(49:UInt8),(45:UInt8),(48:UInt8),(49:UInt8),(84:UInt8),(48:UInt8),(48:UInt8),(58:UInt8),(48:UInt8),(48:UInt8),(58:UInt8),(48:UInt8),(48:UInt8),(43:UInt8),(48:UInt8),(53:UInt8),(58:UInt8),(51:UInt8),(48:UInt8),(58:UInt8),(49:UInt8),(53:UInt8),(32:UInt8),(76:UInt8),(77:UInt8),(84:UInt8)])) fun v26 =>
 (if v26 then
 (if r15 then
 (if (!r17) then
 (if (r19 == 9) then
 (if (r21 == 0) then
 (lt (r20.1 == 729 && (r20.2.1 == 19 && (r20.2.2.1 == 0 && (r20.2.2.2.1 == 0 && (r20.2.2.2.2.1 == (-18000) && (r20.2.2.2.2.2.1 == false && (ByteArray.toList r20.2.2.2.2.2.2.1 == ByteArray.toList (ByteArray.mk #[(69:UInt8),(83:UInt8),(84:UInt8)]) && true))))))) fun v27 =>
 (if v27 then
 (if (r23 == 1) then
 xq3b ([Eng.V.agg [Eng.V.c (Value.int IntKind.i64 (-18000)),Eng.V.c (Value.bool false),Eng.V.c (Value.string (ByteArray.mk #[(69:UInt8),(83:UInt8),(84:UInt8)]))]],[],[Eng.V.agg [Eng.V.c (Value.int IntKind.i64 78796800),Eng.V.c (Value.int IntKind.i64 1)]],ByteArray.mk #[],2,()) (fun r28 =>
 K r28)
 else
 K false)
 else
 K false))
 else
 K false)
 else
 K false)
 else
 K false)
 else
 K false)
 else
 K false))
 else
 K false)
 else
 K false)
 else
 K false)
 else
 K false)
 else
 K false)
 else
 K false)
 else
 K false)
 else
 K false)
 else
 K false)
 else
 K false))
 else
 K false)
 else
 K false))))))))))))))
def Xq13:Tq13:=Yq13 Xq3w Xq3j Xq34 Xq41 Xq3d Xq3b
def Jq13 (X:Tq13):Inst:=mkI 24 .nil .nil pL1 .nil X
def Iq13:Inst:=Jq13 Xq13
theorem Eq13 (xq3w:Tq3w) (xq3j:Tq3j) (xq34:Tq34) (xq41:Tq41) (xq3d:Tq3d) (xq3b:Tq3b):EqF Tryz.prog 167 gives Tryz.f24 [Jq3w xq3w,Jq3j xq3j,Jq34 xq34,Jq41 xq41,Jq3d xq3d,Jq3b xq3b] [] (Jq13 (Yq13 xq3w xq3j xq34 xq41 xq3d xq3b)):=fun x y K=>by kernel_rfl
theorem Iq13_ok:InstOk Tryz.prog G.1 Iq13:=iok (gives:=gives) [] (okCons Iq3w_ok (okCons Iq3j_ok (okCons Iq34_ok (okCons Iq41_ok (okCons Iq3d_ok (okCons Iq3b_ok okNil)))))) 167 follows Tryz.func24 (by kernel_rfl) (fun x=>by kernel_rfl) (Eq13 Xq3w Xq3j Xq34 Xq41 Xq3d Xq3b)
end Go.Proofs.YtbnpclndiichcaaGreatDoor
end
section
set_option linter.unusedVariables false
set_option linter.unusedSimpArgs false
namespace Go.Proofs.YtbnpclndiichcaaGreatDoor
open Go Go.Proofs.YtbnpclndiichcaaGreatDoor.Eng
set_option maxRecDepth 100000
set_option maxHeartbeats 4000000
variable {G:Gs}
abbrev uQ0:Type:=Int×Int×Int×Int×Int×Int×Int×Unit
abbrev upL2:PL:=(.cons (.int .i64) .nil)
abbrev upL3:PL:=(.cons (.slN 1) .nil)
abbrev upL4:PL:=(.cons (.sla 0) .nil)
abbrev upH5:PH:=(.cons 0 (.arrB 1) .nil)
abbrev upL8:PL:=(.cons (.int .i64) (.cons (.int .i64) .nil))
abbrev upL9:PL:=(.cons .bool .nil)
abbrev upL24:PL:=(.cons (.int .u8) .nil)
abbrev upL55:PL:=(.cons (.agg (.cons (.int .i64) (.cons (.int .i64) (.cons (.int .i64) (.cons (.int .i64) (.cons (.int .i64) (.cons (.int .i64) (.cons (.int .i64) .nil)))))))) .nil)
abbrev uQ58:Type:=List Eng.V×List Eng.V×List Eng.V×ByteArray×Int×Unit
abbrev upL74:PL:=(.cons (.agg (.cons (.slN 3) (.cons (.slN 2) (.cons (.slN 2) (.cons .str (.cons (.int .i64) .nil)))))) .nil)
abbrev upL77:PL:=(.cons (.agg (.cons (.int .i64) (.cons (.int .i64) (.cons (.int .i64) (.cons (.int .i64) (.cons (.int .i64) (.cons (.int .i64) (.cons (.int .i64) .nil)))))))) (.cons .bool .nil))
abbrev upL81:PL:=(.cons .str (.cons .str .nil))
abbrev upL97:PL:=(.cons (.slN 2) .nil)
abbrev uQ101:Type:=(Unit×Unit×Unit×Int×Unit)×(List Eng.V×List Eng.V×List Eng.V×ByteArray×Int×Unit)×List Eng.V×Unit
abbrev upT102:PT:=(.cons 1 (.ptr 80 0) (.cons 2 (.nl 0) (.cons 3 (.sla 416) (.cons 4 (.int .i64) .nil))))
abbrev upH103:PH:=(.cons 80 (.cells [.sl 3,.sl 2,.sl 2,.str,.int .i64] (.cons (.slN 3) (.cons (.slN 2) (.cons (.slN 2) (.cons .str (.cons (.int .i64) .nil)))))) (.cons 416 (.arr 1 true false) .nil))
abbrev uQ104:Type:=(ByteArray×Bool×Int×Unit)×Unit
abbrev upT105:PT:=(.cons 0 .str (.cons 2 .bool (.cons 3 (.int .i64) .nil)))
abbrev upL106:PL:=(.cons .str .nil)
abbrev uQ107:Type:=(List Eng.V×ByteArray×Unit×Bool×ByteArray×Unit×Int×Unit)×List Eng.V×Unit
abbrev uQ108:Type:=(List Eng.V×ByteArray×Unit×Bool×ByteArray×Unit×Int×Int×Int×Unit)×List Eng.V×Unit
abbrev upT109:PT:=(.cons 0 (.slN 1) (.cons 2 .str (.cons 3 (.nl 0) (.cons 4 .bool (.cons 5 .str (.cons 6 (.sla 1024) (.cons 7 (.int .i64) (.cons 8 (.int .i64) (.cons 9 (.int .i64) .nil)))))))))
abbrev upH110:PH:=(.cons 1024 (.arr 1 true false) .nil)
abbrev upT111:PT:=(.cons 0 (.slN 1) (.cons 2 .str (.cons 3 (.nl 0) (.cons 4 .bool (.cons 5 .str (.cons 6 (.sla 1024) (.cons 7 (.int .i64) .nil)))))))
abbrev upL112:PL:=(.cons .str (.cons (.sla 0) (.cons .bool .nil)))
abbrev upL113:PL:=(.cons (.slN 2) (.cons (.int .i64) .nil))
abbrev upL114:PL:=(.cons (.int .i64) (.cons .bool .nil))
abbrev uQ115:Type:=(List Eng.V×Int×Int×Int×Unit)×Unit
abbrev upT116:PT:=(.cons 0 (.slN 2) (.cons 2 (.int .i64) (.cons 3 (.int .i64) (.cons 4 (.int .i64) .nil))))
abbrev uQ117:Type:=(ByteArray×ByteArray×ByteArray×ByteArray×Bool×Int×Unit)×Unit
abbrev upT118:PT:=(.cons 0 .str (.cons 1 .str (.cons 4 .str (.cons 5 .str (.cons 6 .bool (.cons 7 (.int .i64) .nil))))))
abbrev upL119:PL:=(.cons .str (.cons .str (.cons .bool .nil)))
abbrev uQ120:Type:=(ByteArray×ByteArray×ByteArray×Bool×Int×Unit)×Unit
abbrev upT121:PT:=(.cons 0 .str (.cons 2 .str (.cons 3 .str (.cons 4 .bool (.cons 9 (.int .i64) .nil)))))
abbrev upL122:PL:=(.cons (.int .i64) (.cons .str .nil))
abbrev uQ123:Type:=(ByteArray×Int×ByteArray×Bool×ByteArray×Int×Int×Int×Unit)×Unit
abbrev upT124:PT:=(.cons 0 .str (.cons 2 (.int .i64) (.cons 3 .str (.cons 4 .bool (.cons 5 .str (.cons 6 (.int .i64) (.cons 7 (.int .i64) (.cons 8 (.int .i64) .nil))))))))
abbrev upL125:PL:=(.cons (.int .i64) (.cons .str (.cons .bool .nil)))
abbrev uQ126:Type:=Int×Bool×ByteArray×Unit
abbrev upL127:PL:=(.cons (.agg (.cons (.int .i64) (.cons .bool (.cons .str .nil)))) (.cons .bool .nil))
abbrev uQ128:Type:=Int×Int×Int×Int×Int×Unit
abbrev upL129:PL:=(.cons (.agg (.cons (.int .i64) (.cons (.int .i64) (.cons (.int .i64) (.cons (.int .i64) (.cons (.int .i64) .nil)))))) .nil)
abbrev uQ130:Type:=Int×Bool×ByteArray×Int×Bool×ByteArray×Bool×Int×Int×Int×Int×Int×Int×Int×Int×Int×Int×Unit
abbrev upL131:PL:=(.cons (.agg (.cons (.int .i64) (.cons .bool (.cons .str (.cons (.int .i64) (.cons .bool (.cons .str (.cons .bool (.cons (.int .i64) (.cons (.int .i64) (.cons (.int .i64) (.cons (.int .i64) (.cons (.int .i64) (.cons (.int .i64) (.cons (.int .i64) (.cons (.int .i64) (.cons (.int .i64) (.cons (.int .i64) .nil)))))))))))))))))) .nil)
abbrev upL132:PL:=(.cons (.agg (.cons (.int .i64) (.cons .bool (.cons .str (.cons (.int .i64) (.cons .bool (.cons .str (.cons .bool (.cons (.int .i64) (.cons (.int .i64) (.cons (.int .i64) (.cons (.int .i64) (.cons (.int .i64) (.cons (.int .i64) (.cons (.int .i64) (.cons (.int .i64) (.cons (.int .i64) (.cons (.int .i64) .nil)))))))))))))))))) (.cons .bool .nil))
abbrev uQ133:Type:=(ByteArray×Int×Int×Int×Int×ByteArray×Int×Int×Unit)×Unit
abbrev upT134:PT:=(.cons 0 .str (.cons 1 (.int .i64) (.cons 2 (.int .i64) (.cons 3 (.int .i64) (.cons 8 (.int .i64) (.cons 9 .str (.cons 10 (.int .i64) (.cons 11 (.int .i64) .nil))))))))
abbrev upL135:PL:=(.cons .str (.cons (.int .i64) (.cons (.int .i64) (.cons (.int .i64) .nil))))
abbrev upL136:PL:=(.cons (.agg (.cons (.int .i64) (.cons (.int .i64) (.cons (.int .i64) (.cons (.int .i64) (.cons (.int .i64) .nil)))))) (.cons .str .nil))
abbrev upL137:PL:=(.cons (.agg (.cons (.int .i64) (.cons (.int .i64) (.cons (.int .i64) (.cons (.int .i64) (.cons (.int .i64) .nil)))))) (.cons .str (.cons .bool .nil)))
abbrev uQ138:Type:=(Unit×Bool×Int×Unit)×(List Eng.V×List Eng.V×List Eng.V×ByteArray×Int×Unit)×Unit
abbrev upT139:PT:=(.cons 1 (.ptr 80 0) (.cons 2 .bool (.cons 9 (.int .i64) .nil)))
abbrev upH140:PH:=(.cons 80 (.cells [.sl 3,.sl 2,.sl 2,.str,.int .i64] (.cons (.slN 3) (.cons (.slN 2) (.cons (.slN 2) (.cons .str (.cons (.int .i64) .nil)))))) .nil)
abbrev upT141:PT:=(.cons 1 (.ptr 80 0) (.cons 2 .bool (.cons 8 (.int .i64) .nil)))
end Go.Proofs.YtbnpclndiichcaaGreatDoor
end
