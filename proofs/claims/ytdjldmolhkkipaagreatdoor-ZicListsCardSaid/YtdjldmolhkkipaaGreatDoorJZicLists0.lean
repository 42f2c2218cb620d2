/- What the functions come to in plain data, with proofs, and what that answers. -/
import Derived.Test.YtdjldmolhkkipaaGreatDoorGZicLists3
import Derived.Shelf.Strings.Builder1
import Derived.Shelf.Strings.Builder2
import Derived.Shelf.Strings.OnBuilder
import Derived.Shelf.Strings.BuilderF
import Derived.Shelf.Strings.BuilderK
import Derived.Shelf.Utf8.RuneCount
import Derived.Shelf.Strings.Builder2Cap
import Derived.Shelf.Strconv.Itoa0
import Derived.Shelf.Strconv.Itoa1
import Derived.Shelf.LaysM
import Derived.Shelf.Strconv.Itoa2
import Derived.Shelf.Strconv.Itoa3
import Derived.Shelf.Strings.Search1
import Derived.Shelf.Strings.Search2
import Derived.Shelf.Strings.Search3
import Derived.Shelf.Strings.Cut
import Derived.Shelf.Strings.Count
import Derived.Shelf.Strings.Shaped
import Derived.Shelf.Strings.Prefix
import Derived.Shelf.Strings.Split
import Derived.Shelf.Strings.SplitShaped
import Derived.Shelf.Unicode.Decode
import Derived.Shelf.Strings.RuneCount
import Derived.Shelf.Strings.Explode
import Derived.Shelf.Bits.Mul64
import Derived.Shelf.Unicode.DecodeSlow
import Derived.Shelf.Unicode.DecodeAny
import Derived.Shelf.Strings.BuilderCap
import Derived.Test.YtdjldmolhkkipaaGreatDoorProg
import Derived.Lib.AppendIntMem
import Derived.Lib.ItoaMem
import Derived.Lib.ItoaNum
import Derived.Lib.Join
import Derived.Lib.LaidTab
import Derived.Lib.Strings
import Derived.Lib.Atoi
import Derived.Laws.Concat
import Derived.Laws.RangeAny
import Derived.Lib.Bytealg
section
set_option linter.unusedVariables false
set_option linter.unusedSimpArgs false
namespace Go.Proofs
open Go.Shelf
def Tryz.lays156_ren:Go.Shelf.Ren:=⟨fun | 156=>58 | 165=>92 | 166=>93 | 169=>94 | 240=>120 | 241=>121 | 276=>141 | 277=>142 | n=>n,fun | 31=>49 | 9=>9 | 3=>3 | 4=>4 | 0=>0 | 20=>20 | 72=>127 | 76=>131 | 70=>125 | 37=>74 | 75=>130 | 127=>152 | 164=>171 | 5=>5 | 80=>40 | n=>n,fun | n=>n⟩
theorem Tryz.lays156:Go.Proofs.Lays.n156 Tryz.prog Tryz.lays156_ren:={
 mixed:=by kernel_rfl
 f156:=Tryz.func58.trans (congrArg some (by kernel_rfl))
 f165:=Tryz.func92.trans (congrArg some (by kernel_rfl))
 f166:=Tryz.func93.trans (congrArg some (by kernel_rfl))
 f169:=Tryz.func94.trans (congrArg some (by kernel_rfl))
 f240:=Tryz.func120.trans (congrArg some (by kernel_rfl))
 f241:=Tryz.func121.trans (congrArg some (by kernel_rfl))
 f276:=Tryz.func141.trans (congrArg some (by kernel_rfl))
 f277:=Tryz.func142.trans (congrArg some (by kernel_rfl))
 t0:=Tryz.underlying0
 a0:=Tryz.isAgg0
 z0:=Tryz.sizeOf0
 v0:=Tryz.zeroValue0
 t3:=Tryz.underlying3
 a3:=Tryz.isAgg3
 z3:=Tryz.sizeOf3
 v3:=Tryz.zeroValue3
 t4:=Tryz.underlying4
 a4:=Tryz.isAgg4
 z4:=Tryz.sizeOf4
 v4:=Tryz.zeroValue4
 t9:=Tryz.underlying9
 a9:=Tryz.isAgg9
 z9:=Tryz.sizeOf9
 v9:=Tryz.zeroValue9
 t20:=Tryz.underlying20
 a20:=Tryz.isAgg20
 z20:=Tryz.sizeOf20
 v20:=Tryz.zeroValue20
 t31:=Tryz.underlying49
 a31:=Tryz.isAgg49
 z31:=Tryz.sizeOf49
 v31:=Tryz.zeroValue49
 t37:=Tryz.underlying74
 a37:=Tryz.isAgg74
 z37:=Tryz.sizeOf74
 v37:=Tryz.zeroValue74
 t70:=Tryz.underlying125
 a70:=Tryz.isAgg125
 z70:=Tryz.sizeOf125
 v70:=Tryz.zeroValue125
 t72:=Tryz.underlying127
 a72:=Tryz.isAgg127
 z72:=Tryz.sizeOf127
 v72:=Tryz.zeroValue127
 t75:=Tryz.underlying130
 a75:=Tryz.isAgg130
 z75:=Tryz.sizeOf130
 v75:=Tryz.zeroValue130
 t76:=Tryz.underlying131
 a76:=Tryz.isAgg131
 z76:=Tryz.sizeOf131
 v76:=Tryz.zeroValue131
 t127:=Tryz.underlying152
 a127:=Tryz.isAgg152
 z127:=Tryz.sizeOf152
 v127:=Tryz.zeroValue152
 t164:=Tryz.underlying171
 a164:=Tryz.isAgg171
 z164:=Tryz.sizeOf171
 v164:=Tryz.zeroValue171 }
theorem Tryz.Builder_Extra_156:Builder.Extra Tryz.prog Tryz.lays156_ren:={
 sizeBuilder:=by kernel_rfl
 liesBuilder:=by kernel_rfl
 t5:=Tryz.underlying5
 a5:=Tryz.isAgg5
 z5:=Tryz.sizeOf5
 v5:=Tryz.zeroValue5
 infoByte:=by kernel_rfl
 cellsByte:=by kernel_rfl
 sizeByte:=by kernel_rfl
 neB5:=by decide }
open Go.RowKit in
theorem Tryz.strings_Join_none (a:Option Addr) (c:Nat) (sep:ByteArray) (w:World) :
  Calls Tryz.prog 58 #[.slice a 0 c,.string sep] w fun e w'=>e = .returned (.string ⟨#[]⟩)∧w'=w:=Any.strings_Join_none Tryz.lays156 Tryz.Builder_Extra_156 a c sep w
open Go.RowKit in
theorem Tryz.strings_Join (bk o c:Nat) (xs:List ByteArray) (sep:ByteArray) (w:World) (hcells:∀ (j:Nat) x,xs[j]? = some x→w.cell? ⟨bk,o+j,none⟩=some (.string x)) (hbk:bk < w.heap.size) (hN:xs.length≤140737488355328) (hcap:xs.length≤c) (hlen:(Lib.join (xs.map (·.data.toList)) sep.data.toList).length≤140737488355328) :
  Calls Tryz.prog 58 #[.slice (some ⟨bk,o,none⟩) xs.length c,.string sep] w fun e w'=>e = .returned (.string ⟨(Lib.join (xs.map (·.data.toList)) sep.data.toList).toArray⟩)∧Below w.heap.size w w':=Any.strings_Join Tryz.lays156 Tryz.Builder_Extra_156 bk o c xs sep w hcells hbk hN hcap hlen
def Tryz.laysM171_ren:Go.Shelf.Ren:=⟨fun | 171=>34 | 243=>67 | 246=>105 | 283=>127 | 284=>128 | 285=>129 | 286=>130 | 129=>146 | 317=>145 | 318=>147 | 319=>148 | 320=>149 | 337=>155 | 338=>156 | n=>n,fun | 3=>3 | 9=>9 | 2=>2 | 4=>4 | 171=>157 | 0=>0 | 53=>134 | 37=>74 | 5=>5 | 173=>160 | 212=>176 | 51=>56 | 20=>20 | 213=>177 | 46=>94 | 232=>186 | 233=>187 | n=>n,fun | 17=>1 | 18=>4 | 19=>5 | n=>n⟩
theorem Tryz.laysM171:Go.Proofs.LaysM.n171 Tryz.prog Tryz.laysM171_ren:={
 mixed:=by kernel_rfl
 f129:=Tryz.func146.trans (congrArg some (by kernel_rfl))
 f171:=Tryz.func34.trans (congrArg some (by kernel_rfl))
 f243:=Tryz.func67.trans (congrArg some (by kernel_rfl))
 f246:=Tryz.func105.trans (congrArg some (by kernel_rfl))
 f283:=Tryz.func127.trans (congrArg some (by kernel_rfl))
 f284:=Tryz.func128.trans (congrArg some (by kernel_rfl))
 f285:=Tryz.func129.trans (congrArg some (by kernel_rfl))
 f286:=Tryz.func130.trans (congrArg some (by kernel_rfl))
 f317:=Tryz.func145.trans (congrArg some (by kernel_rfl))
 f318:=Tryz.func147.trans (congrArg some (by kernel_rfl))
 f319:=Tryz.func148.trans (congrArg some (by kernel_rfl))
 f320:=Tryz.func149.trans (congrArg some (by kernel_rfl))
 f337:=Tryz.func155.trans (congrArg some (by kernel_rfl))
 f338:=Tryz.func156.trans (congrArg some (by kernel_rfl))
 t0:=Tryz.underlying0
 a0:=Tryz.isAgg0
 z0:=Tryz.sizeOf0
 v0:=Tryz.zeroValue0
 t2:=Tryz.underlying2
 a2:=Tryz.isAgg2
 z2:=Tryz.sizeOf2
 v2:=Tryz.zeroValue2
 t3:=Tryz.underlying3
 a3:=Tryz.isAgg3
 z3:=Tryz.sizeOf3
 v3:=Tryz.zeroValue3
 t4:=Tryz.underlying4
 a4:=Tryz.isAgg4
 z4:=Tryz.sizeOf4
 v4:=Tryz.zeroValue4
 t5:=Tryz.underlying5
 a5:=Tryz.isAgg5
 z5:=Tryz.sizeOf5
 v5:=Tryz.zeroValue5
 t9:=Tryz.underlying9
 a9:=Tryz.isAgg9
 z9:=Tryz.sizeOf9
 v9:=Tryz.zeroValue9
 t20:=Tryz.underlying20
 a20:=Tryz.isAgg20
 z20:=Tryz.sizeOf20
 v20:=Tryz.zeroValue20
 t37:=Tryz.underlying74
 a37:=Tryz.isAgg74
 z37:=Tryz.sizeOf74
 v37:=Tryz.zeroValue74
 t46:=Tryz.underlying94
 a46:=Tryz.isAgg94
 z46:=Tryz.sizeOf94
 v46:=Tryz.zeroValue94
 t51:=Tryz.underlying56
 a51:=Tryz.isAgg56
 z51:=Tryz.sizeOf56
 v51:=Tryz.zeroValue56
 t53:=Tryz.underlying134
 a53:=Tryz.isAgg134
 z53:=Tryz.sizeOf134
 v53:=Tryz.zeroValue134
 t171:=Tryz.underlying157
 a171:=Tryz.isAgg157
 z171:=Tryz.sizeOf157
 v171:=Tryz.zeroValue157
 t173:=Tryz.underlying160
 a173:=Tryz.isAgg160
 z173:=Tryz.sizeOf160
 v173:=Tryz.zeroValue160
 t212:=Tryz.underlying176
 a212:=Tryz.isAgg176
 z212:=Tryz.sizeOf176
 v212:=Tryz.zeroValue176
 t213:=Tryz.underlying177
 a213:=Tryz.isAgg177
 z213:=Tryz.sizeOf177
 t232:=Tryz.underlying186
 a232:=Tryz.isAgg186
 z232:=Tryz.sizeOf186
 v232:=Tryz.zeroValue186
 t233:=Tryz.underlying187
 a233:=Tryz.isAgg187
 z233:=Tryz.sizeOf187
 v233:=Tryz.zeroValue187
 g17:=by kernel_rfl
 g18:=by kernel_rfl
 g19:=by kernel_rfl
 i0:=by kernel_rfl
 i2:=by kernel_rfl
 i3:=by kernel_rfl
 i4:=by kernel_rfl
 i5:=by kernel_rfl
 i9:=by kernel_rfl
 i20:=by kernel_rfl
 i37:=by kernel_rfl
 i46:=by kernel_rfl
 i51:=by kernel_rfl
 i53:=by kernel_rfl
 i171:=by kernel_rfl
 i173:=by kernel_rfl
 i212:=by kernel_rfl
 i232:=by kernel_rfl
 i233:=by kernel_rfl
 m17:=by kernel_rfl
 m18:=by kernel_rfl
 m19:=by kernel_rfl }
open Go.RowKit Go.Sort Go.Lib in
theorem Tryz.strconv_Itoa (n:Int) (h0:-9223372036854775808≤n) (h1:n≤9223372036854775807) (w:World) (htab:Lib.TabIs Tryz.prog w "internal/strconv.uint64pow10" .u64 Lib.pow10Tab) :
  Calls Tryz.prog 34 #[.int .i64 n] w fun e w'=>e = .returned (.string ⟨(Lib.itoa n).toArray⟩)∧∃ k os,w'=grow (w.drewN k) os:=Any.strconv_Itoa Tryz.laysM171 n h0 h1 w htab
def Tryz.lays217_ren:Go.Shelf.Ren:=⟨fun | 217=>133 | 266=>150 | n=>n,fun | 9=>9 | 5=>5 | 3=>3 | n=>n,fun | n=>n⟩
theorem Tryz.lays217:Go.Proofs.Lays.n217 Tryz.prog Tryz.lays217_ren:={
 mixed:=by kernel_rfl
 f217:=Tryz.func133.trans (congrArg some (by kernel_rfl))
 f266:=Tryz.func150.trans (congrArg some (by kernel_rfl))
 t3:=Tryz.underlying3
 a3:=Tryz.isAgg3
 z3:=Tryz.sizeOf3
 v3:=Tryz.zeroValue3
 t5:=Tryz.underlying5
 a5:=Tryz.isAgg5
 z5:=Tryz.sizeOf5
 v5:=Tryz.zeroValue5
 t9:=Tryz.underlying9
 a9:=Tryz.isAgg9
 z9:=Tryz.sizeOf9
 v9:=Tryz.zeroValue9 }
open Go.RowKit Go.Lib in
theorem Tryz.stringslite_IndexByte (s:ByteArray) (c:Int) (w:World) :
  Calls Tryz.prog 133 #[.string s,.int .u8 c] w fun e w'=>e = .returned (.int .i64 (Lib.indexByte s.data.toList c.toNat.toUInt8))∧w'=w:=Any.stringslite_IndexByte Tryz.lays217 s c w
def Tryz.lays138_ren:Go.Shelf.Ren:=⟨fun | 138=>117 | 195=>138 | 218=>140 | 143=>118 | 219=>110 | 217=>133 | 225=>134 | 224=>135 | 267=>136 | 266=>150 | 314=>151 | n=>n,fun | 9=>9 | 3=>3 | 4=>4 | 5=>5 | 0=>0 | 46=>94 | 146=>179 | 51=>56 | n=>n,fun | 1=>0 | n=>n⟩
theorem Tryz.lays138:Go.Proofs.Lays.n138 Tryz.prog Tryz.lays138_ren:={
 mixed:=by kernel_rfl
 f138:=Tryz.func117.trans (congrArg some (by kernel_rfl))
 f143:=Tryz.func118.trans (congrArg some (by kernel_rfl))
 f195:=Tryz.func138.trans (congrArg some (by kernel_rfl))
 f217:=Tryz.func133.trans (congrArg some (by kernel_rfl))
 f218:=Tryz.func140.trans (congrArg some (by kernel_rfl))
 f219:=Tryz.func110.trans (congrArg some (by kernel_rfl))
 f224:=Tryz.func135.trans (congrArg some (by kernel_rfl))
 f225:=Tryz.func134.trans (congrArg some (by kernel_rfl))
 f266:=Tryz.func150.trans (congrArg some (by kernel_rfl))
 f267:=Tryz.func136.trans (congrArg some (by kernel_rfl))
 f314:=Tryz.func151.trans (congrArg some (by kernel_rfl))
 t0:=Tryz.underlying0
 a0:=Tryz.isAgg0
 z0:=Tryz.sizeOf0
 v0:=Tryz.zeroValue0
 t3:=Tryz.underlying3
 a3:=Tryz.isAgg3
 z3:=Tryz.sizeOf3
 v3:=Tryz.zeroValue3
 t4:=Tryz.underlying4
 a4:=Tryz.isAgg4
 z4:=Tryz.sizeOf4
 v4:=Tryz.zeroValue4
 t5:=Tryz.underlying5
 a5:=Tryz.isAgg5
 z5:=Tryz.sizeOf5
 v5:=Tryz.zeroValue5
 t9:=Tryz.underlying9
 a9:=Tryz.isAgg9
 z9:=Tryz.sizeOf9
 v9:=Tryz.zeroValue9
 t46:=Tryz.underlying94
 a46:=Tryz.isAgg94
 z46:=Tryz.sizeOf94
 v46:=Tryz.zeroValue94
 t51:=Tryz.underlying56
 a51:=Tryz.isAgg56
 z51:=Tryz.sizeOf56
 v51:=Tryz.zeroValue56
 t146:=Tryz.underlying179
 a146:=Tryz.isAgg179
 z146:=Tryz.sizeOf179
 v146:=Tryz.zeroValue179
 g1:=by kernel_rfl }
open Go.RowKit Go.Lib in
theorem Tryz.strings_Count_one (s:ByteArray) (c:UInt8) (w:World) :
  Calls Tryz.prog 117 #[.string s,.string ⟨#[c]⟩] w fun e w'=>e = .returned (.int .i64 (Lib.countByte s.data.toList c))∧w'=w:=Any.strings_Count_one Tryz.lays138 s c w
end Go.Proofs
end
section
set_option linter.unusedVariables false
set_option linter.unusedSimpArgs false
namespace Go.Proofs.YtdjldmolhkkipaaGreatDoor
open Go Go.Proofs.YtdjldmolhkkipaaGreatDoor.Eng Go.RowKit
def gives:FuncId→Bool:=fun g=>Nat.beq g 80
theorem follows:Tryz.prog.follows .mixedOrders=true:=by kernel_rfl
abbrev Gs:={l:List (Nat×Obj) // ∀ w:World,(∀ x∈l,w.heap[x.1]? = some x.2)→Lib.TabIs Tryz.prog w "internal/strconv.uint64pow10" .u64 Lib.pow10Tab}
variable {G:Gs}
abbrev Titoa:Type:=Int→(ByteArray→Prop)→Prop
abbrev Tq1c:Type:=ByteArray→Int→(Int→Prop)→Prop
def Xitoa (n:Int) (K:ByteArray→Prop):Prop:=(-9223372036854775808≤n∧n≤9223372036854775807)∧K ⟨(Lib.itoa n).toArray⟩
def Jitoa (X:Int→(ByteArray→Prop)→Prop):Inst:=⟨34,(.cons (.int .i64) .nil),.nil,(.cons .str .nil),.nil,fun x y K=>X x.1 (fun u0=>K (u0,()) ())⟩
def Iitoa:Inst:=Jitoa Xitoa
theorem Iitoa_ok:InstOk Tryz.prog G.1 Iitoa:=fun ⟨n,_⟩ y K ⟨h1,h3⟩ =>
 (told (args:=[.int .i64 n]) (rs:=[.string ⟨(Lib.itoa n).toArray⟩]) rfl fun w hw=>(Tryz.strconv_Itoa n h1.1 h1.2 w (G.2 w hw)).mono fun e w' ⟨he,k,os,hw⟩=>⟨he,by subst hw; exact Lib.below_grow _ _ (Nat.le_refl _) _ _⟩).mono fun rs h' ⟨e1,e2⟩=>⟨(⟨(Lib.itoa n).toArray⟩,()),(),e1,e2,h3⟩
def Xq1c (s:ByteArray) (c:Int) (K:Int→Prop):Prop:=K (Lib.indexByte s.data.toList c.toNat.toUInt8)
def Jq1c (X:ByteArray→Int→(Int→Prop)→Prop):Inst:=⟨133,(.cons .str (.cons (.int .u8) .nil)),.nil,(.cons (.int .i64) .nil),.nil,fun x y K=>X x.1 x.2.1 (fun u0=>K (u0,()) ())⟩
def Iq1c:Inst:=Jq1c Xq1c
theorem Iq1c_ok:InstOk Tryz.prog G.1 Iq1c:=fun ⟨s,c,_⟩ y K h3 =>
 (told (args:=[.string s,.int .u8 c]) (rs:=[.int .i64 (Lib.indexByte s.data.toList c.toNat.toUInt8)]) rfl fun w _=>(Tryz.stringslite_IndexByte s c w).mono fun e w' ⟨he,hw⟩=>⟨he,by subst hw; exact Below.refl _ _⟩).mono fun rs h' ⟨e1,e2⟩=>⟨(_,()),(),e1,e2,h3⟩
abbrev Tjoin:Type:=List V→ByteArray→(ByteArray→Prop)→Prop
abbrev Tq25:Type:=ByteArray→ByteArray→(Int→Prop)→Prop
def cs (b:ByteArray):V:=.c (.string b)
def Xq25 (s sep:ByteArray) (K:Int→Prop):Prop:=∃ c,sep=⟨#[c]⟩∧K (Lib.countByte s.data.toList c)
def Jq25 (X:Tq25):Inst:=⟨117,(.cons .str (.cons .str .nil)),.nil,(.cons (.int .i64) .nil),.nil,fun x y K=>X x.1 x.2.1 (fun u0=>K (u0,()) ())⟩
def Iq25:Inst:=Jq25 Xq25
theorem Iq25_ok:InstOk Tryz.prog G.1 Iq25:=fun ⟨s,sep,_⟩ y K ⟨c,hc,h3⟩ =>
 (told (args:=[.string s,.string sep]) (rs:=[.int .i64 (Lib.countByte s.data.toList c)]) rfl fun w _=>by
  subst hc
  exact (Tryz.strings_Count_one s c w).mono fun e w' ⟨he,hw⟩=>⟨he,by subst hw; exact Below.refl _ _⟩).mono fun rs h' ⟨e1,e2⟩=>⟨(_,()),(),e1,e2,h3⟩
def Xjoin (xs:List V) (sep:ByteArray) (K:ByteArray→Prop):Prop:=∃ bs:List ByteArray,xs=bs.map cs∧bs.length≤1000000∧(Lib.join (bs.map (·.data.toList)) sep.data.toList).length≤100000000∧K ⟨(Lib.join (bs.map (·.data.toList)) sep.data.toList).toArray⟩
def Jjoin (X:Tjoin):Inst:=⟨58,(.cons (.slN 1) (.cons .str .nil)),.nil,(.cons .str .nil),.nil,fun x y K=>X x.1 x.2.1 (fun u0=>K (u0,()) ())⟩
def Ijoin:Inst:=Jjoin Xjoin
theorem Ijoin_ok:InstOk Tryz.prog G.1 Ijoin:=fun ⟨xs,sep,_⟩ y K ⟨bs,hx,hn,hl,hk⟩ w F ρ vs hG hlen hv hh=>by
 subst hx
 have hl2:vs.size=2:=by
  have:2=vs.size:=by simpa [Ijoin,Jjoin,PL.enc] using hlen
  omega
 have hl:(Lib.join (bs.map (·.data.toList)) sep.data.toList).length≤100000000:=hl
 obtain ⟨v0,v1,rfl⟩:∃ v0 v1,vs = #[v0,v1]:=by
  obtain ⟨l⟩:=vs
  match l,hl2 with
  | [a,b],_=>exact ⟨a,b,rfl⟩
 have h0:=hv 0 _ v0 rfl rfl
 have h1:=hv 1 _ v1 rfl rfl
 have h1':v1 = .string sep:=by
  have h1:VR _ F ρ (.c (.string sep)) v1:=h1
  cases h1; rfl
 subst h1'
 have h0:VR (clOf w) F ρ (.sl 1 false (bs.map cs)) v0:=h0
 cases h0 with
 | @sl _ _ _ a n cap g p cf hnn hc hf ha hw hF hvv =>
  have hnn':n=bs.length:=by rw [hnn,List.length_map]
  have key:Calls Tryz.prog 58 #[.slice a n cap,.string sep] w fun e w'=>e = .returned (.string ⟨(Lib.join (bs.map (·.data.toList)) sep.data.toList).toArray⟩)∧Below w.heap.size w w':=by
   cases bs with
   | nil =>
    have:n=0:=hnn'
    subst this
    exact (Tryz.strings_Join_none a cap sep w).mono fun e w' ⟨he,hw⟩=>⟨he,by subst hw; exact Below.refl _ _⟩
   | cons b0 bs0 =>
    have ha':a=some ⟨g,p,none⟩:=ha.resolve_left (by rw [hnn'] at hc; simp at hc; omega)
    subst ha'; subst hnn'
    have cell:∀ (j:Nat) x,(b0 :: bs0)[j]? = some x→F g (p+j)∧w.cell? ⟨g,p+j,none⟩=some (.string x):=by
     intro j x hj
     have hj':((b0 :: bs0).map cs)[j]? = some (cs x):=by rw [List.getElem?_map,hj]; rfl
     obtain ⟨q1,q2,q3⟩:=hF j (cs x) 0 hj' (by decide)
     have q4:=hvv j (cs x) 0 (cs x) hj' rfl
     rw [Nat.mul_one,Nat.add_zero] at q1 q2
     refine ⟨q1,?_⟩
     have q5:VR (clOf w) F ρ (.c (.string x)) (cf j 0):=q4
     generalize cf j 0=z at q2 q5
     cases q5
     exact q2
    have hg:g < w.heap.size:=hh.fin g (p+0) (cell 0 b0 rfl).1
    exact Tryz.strings_Join g p cap (b0 :: bs0) sep w (fun j x hj=>(cell j x hj).2) hg (by omega) hc (by omega)
  refine key.mono fun e w' ⟨he,hb⟩=>?_
  exact ⟨_,[.c (.string ⟨(Lib.join (bs.map (·.data.toList)) sep.data.toList).toArray⟩)],[],F,ρ,he,.c rfl,back_below hb hh,(⟨(Lib.join (bs.map (·.data.toList)) sep.data.toList).toArray⟩,()),(),rfl,rfl,hk⟩
theorem gs_of {w:World} (h:Lib.TabIs Tryz.prog w "internal/strconv.uint64pow10" .u64 Lib.pow10Tab):∃ G:Gs,∀ x∈G.1,w.heap[x.1]? = some x.2:=by
 unfold Lib.TabIs World.var? at h
 cases hg:Tryz.prog.globalNamed "internal/strconv.uint64pow10" with
 | none=>rw [hg] at h; cases h
 | some g =>
  rw [hg] at h
  simp only [Option.bind_some] at h
  cases ho:w.heap[g]? with
  | none=>rw [ho] at h; cases h
  | some o =>
   rw [ho] at h
   refine ⟨⟨[(g,o)],fun w' hw=>?_⟩,fun x hx=>?_⟩
   ·have:=hw (g,o) (.head _)
    unfold Lib.TabIs World.var?
    rw [hg]
    simp only [Option.bind_some,this]
    exact h
   ·simp only [List.mem_singleton] at hx
    subst hx; exact ho
theorem globN:Tryz.prog.globalNamed "internal/strconv.uint64pow10" = some 1:=by kernel_rfl
end Go.Proofs.YtdjldmolhkkipaaGreatDoor
end
section
set_option linter.unusedVariables false
set_option linter.unusedSimpArgs false
namespace Go.Proofs.YtdjldmolhkkipaaGreatDoor
open Go Go.Proofs.YtdjldmolhkkipaaGreatDoor.Eng
set_option maxRecDepth 100000
set_option maxHeartbeats 4000000
variable {G:Gs}
abbrev pL0:PL:=(.cons .str .nil)
abbrev pL1:PL:=(.cons .str (.cons .str .nil))
abbrev pL2:PL:=(.cons (.int .i64) .nil)
abbrev Q3:Type:=(ByteArray×ByteArray×Int×Int×Unit×Unit×Int×Unit)×List Eng.V×Unit
abbrev pT4:PT:=(.cons 0 .str (.cons 1 .str (.cons 2 (.int .i64) (.cons 3 (.int .i64) (.cons 8 (.nl 0) (.cons 9 (.sla 560) (.cons 10 (.int .i64) .nil)))))))
abbrev pH5:PH:=(.cons 560 (.arr 1 true false) .nil)
abbrev pL6:PL:=(.cons .str (.cons .str (.cons (.int .i64) (.cons (.int .i64) .nil))))
abbrev pL7:PL:=(.cons (.sla 0) .nil)
abbrev pH8:PH:=(.cons 0 (.arrB 1) .nil)
abbrev pL9:PL:=(.cons .bool .nil)
abbrev Q10:Type:=(Unit×Unit×Int×Int×Unit)×(List Eng.V×Bool×Bool)×Unit
abbrev pT11:PT:=(.cons 2 (.nl 0) (.cons 3 (.sla 176) (.cons 20 (.int .i64) (.cons 21 (.int .i64) .nil))))
abbrev pH12:PH:=(.cons 176 (.arrB 1) .nil)
abbrev Q13:Type:=(Unit×Nat×Int×Int×Unit)×(List Eng.V×Bool×Bool)×Unit
abbrev pT14:PT:=(.cons 2 (.nl 0) (.cons 3 (.slh 176) (.cons 20 (.int .i64) (.cons 21 (.int .i64) .nil))))
abbrev Q15:Type:=(ByteArray×Unit×Int×Unit×Unit)×(ByteArray×Nat)×List Eng.V×Unit
abbrev pT16:PT:=(.cons 0 .str (.cons 2 (.sla 736) (.cons 3 (.int .i64) (.cons 9 (.it 208) .nil))))
abbrev pH17:PH:=(.cons 208 .iter (.cons 736 (.arr 1 true false) .nil))
abbrev pL18:PL:=(.cons (.int .u64) .nil)
abbrev pL19:PL:=(.cons (.int .u64) (.cons (.int .u64) .nil))
abbrev pL20:PL:=(.cons (.int .i64) (.cons (.int .i64) .nil))
abbrev pL21:PL:=(.cons (.int .i64) (.cons .bool .nil))
abbrev Q22:Type:=(ByteArray×Int×Bool×Unit×Int×Int×Unit)×List Eng.V×Unit
abbrev pT23:PT:=(.cons 0 .str (.cons 2 (.int .i64) (.cons 3 .bool (.cons 11 (.sla 240) (.cons 12 (.int .i64) (.cons 13 (.int .i64) .nil))))))
abbrev pH24:PH:=(.cons 240 (.arr 1 true false) .nil)
abbrev Q25:Type:=ByteArray×Unit×Unit×Bool×Unit
abbrev Q26:Type:=(Int×Unit×Unit×Unit×Int×Int×Unit)×(ByteArray×Unit×Unit×Bool×Unit)×(ByteArray×Unit×Unit×Bool×Unit)×(List Eng.V×Bool×Bool)×List Eng.V×Unit
abbrev pT27:PT:=(.cons 2 (.int .i64) (.cons 6 (.ptr 160 0) (.cons 7 (.ptr 176 0) (.cons 17 (.sla 288) (.cons 18 (.int .i64) (.cons 19 (.int .i64) .nil))))))
abbrev pH28:PH:=(.cons 160 (.cells [.str,.sl 1,.sl 1,.bool] (.cons .str (.cons (.nl 1) (.cons (.nl 1) (.cons .bool .nil))))) (.cons 176 (.cells [.str,.sl 1,.sl 1,.bool] (.cons .str (.cons (.sla 288) (.cons (.sla 1280) (.cons .bool .nil))))) (.cons 288 (.arrB 1) (.cons 1280 (.arr 1 true false) .nil))))
abbrev pL29:PL:=(.cons .str (.cons .str (.cons (.int .i64) .nil)))
abbrev pL30:PL:=(.cons (.agg (.cons .str (.cons (.sla 0) (.cons (.sla 1) (.cons .bool .nil))))) .nil)
abbrev pH31:PH:=(.cons 0 (.arrB 1) (.cons 1 (.arrB 1) .nil))
abbrev pL32:PL:=(.cons (.int .i32) .nil)
abbrev pL33:PL:=(.cons (.int .u32) (.cons .bool .nil))
abbrev Q34:Type:=(Int×Bool×Unit×Unit)×(ByteArray×Nat)×Unit
abbrev pT35:PT:=(.cons 2 (.int .u32) (.cons 3 .bool (.cons 16 (.it 320) .nil)))
abbrev pH36:PH:=(.cons 320 .iter .nil)
abbrev Q37:Type:=Int×Int×Int×Int×Int×Unit
abbrev Q38:Type:=(Unit×Bool×Unit×Int×Int×Unit)×List Eng.V×(List Eng.V×Bool×Bool)×Unit
abbrev pT39:PT:=(.cons 2 (.pea 96) (.cons 3 .bool (.cons 13 (.sla 192) (.cons 14 (.int .i64) (.cons 15 (.int .i64) .nil)))))
abbrev pH40:PH:=(.cons 96 (.arr 5 true false) (.cons 192 (.arrB 1) .nil))
abbrev pL41:PL:=(.cons (.agg (.cons (.int .u32) (.cons (.int .u32) (.cons (.int .u32) (.cons (.int .u32) (.cons (.int .u32) .nil)))))) (.cons .bool .nil))
abbrev pL42:PL:=(.cons .str (.cons .str (.cons .bool .nil)))
abbrev Q43:Type:=(Unit×Unit×Int×Int×Unit)×(List Eng.V×Bool×Bool)×List Eng.V×Unit
abbrev pT44:PT:=(.cons 2 (.sla 368) (.cons 6 (.sla 160) (.cons 7 (.int .i64) (.cons 8 (.int .i64) .nil))))
abbrev pH45:PH:=(.cons 160 (.arrB 1) (.cons 368 (.arr 4 true false) .nil))
abbrev pH46:PH:=(.cons 0 (.arrB 4) .nil)
abbrev pL47:PL:=(.cons (.int .i64) (.cons (.int .i64) (.cons .bool .nil)))
abbrev pL48:PL:=(.cons (.slN 3) .nil)
abbrev pH49:PH:=(.cons 0 (.arrB 3) .nil)
abbrev pL50:PL:=(.cons (.int .i64) (.cons (.int .i64) (.cons (.int .i64) (.cons .bool .nil))))
abbrev Q51:Type:=Int×Int×Bool×Unit
abbrev pL52:PL:=(.cons (.int .i64) (.cons (.agg (.cons (.int .i64) (.cons (.int .i64) (.cons .bool .nil)))) (.cons (.int .i64) .nil)))
abbrev Q53:Type:=List Eng.V×Bool×Int×Unit
abbrev Q54:Type:=(Unit×Int×Int×Int×List Eng.V×Int×Int×Unit)×(List Eng.V×Bool×Int×Unit)×Unit
abbrev pT55:PT:=(.cons 1 (.ptr 80 0) (.cons 2 (.int .i64) (.cons 3 (.int .i64) (.cons 4 (.int .i64) (.cons 11 (.slN 3) (.cons 12 (.int .i64) (.cons 13 (.int .i64) .nil)))))))
abbrev pH56:PH:=(.cons 80 (.cells [.sl 3,.bool,.int .i64] (.cons (.slN 3) (.cons .bool (.cons (.int .i64) .nil)))) .nil)
abbrev pL57:PL:=(.cons (.agg (.cons (.slN 3) (.cons .bool (.cons (.int .i64) .nil)))) .nil)
abbrev Q58:Type:=Unit×Bool×Int×Unit
abbrev pL59:PL:=(.cons (.agg (.cons (.slN 3) (.cons .bool (.cons (.int .i64) .nil)))) (.cons (.agg (.cons (.int .i64) (.cons (.int .i64) (.cons .bool .nil)))) .nil))
abbrev pL60:PL:=(.cons (.agg (.cons (.sla 0) (.cons .bool (.cons (.int .i64) .nil)))) (.cons (.int .i64) .nil))
abbrev Q61:Type:=List (Go.Value×Eng.V)
abbrev pL62:PL:=(.cons (.ptr 0 0) (.cons (.int .i64) (.cons (.int .i64) .nil)))
abbrev pH63:PH:=(.cons 0 (.cells [.sl 3,.bool,.int .i64,.int .i64,.bool,.oth] (.cons (.slN 3) (.cons .bool (.cons (.int .i64) (.cons (.int .i64) (.cons .bool (.cons (.mp 1) .nil))))))) (.cons 1 .mapI .nil))
abbrev pH64:PH:=(.cons 0 (.cells [.sl 3,.bool,.int .i64,.int .i64,.bool,.oth] (.cons (.sla 1) (.cons .bool (.cons (.int .i64) (.cons (.int .i64) (.cons .bool (.cons (.mp 2) .nil))))))) (.cons 1 (.arrB 3) (.cons 2 .mapI .nil)))
abbrev Q65:Type:=ByteArray×List Eng.V×List Eng.V×Bool×Unit
abbrev pL66:PL:=(.cons (.ptr 0 0) (.cons (.int .i64) (.cons (.agg (.cons .str (.cons (.slN 1) (.cons (.slN 1) (.cons .bool .nil))))) .nil)))
abbrev Q67:Type:=Int×Int×Unit
abbrev pL68:PL:=(.cons (.agg (.cons (.sla 0) (.cons .bool (.cons (.int .i64) .nil)))) (.cons (.agg (.cons (.int .i64) (.cons (.int .i64) .nil))) .nil))
abbrev pL69:PL:=(.cons (.nl 1) (.cons (.int .i64) .nil))
abbrev Q70:Type:=(List Eng.V×Unit×Int×List Eng.V×Int×Int×Unit)×Unit
abbrev Q71:Type:=(Unit×Unit×List Eng.V×Int×Int×Unit)×(List Eng.V×Bool×Bool)×Unit
abbrev pT72:PT:=(.cons 2 (.nl 0) (.cons 6 (.sla 448) (.cons 25 (.slN 1) (.cons 26 (.int .i64) (.cons 27 (.int .i64) .nil)))))
abbrev pH73:PH:=(.cons 448 (.arrB 1) .nil)
abbrev pT74:PT:=(.cons 0 (.slN 1) (.cons 2 (.nl 0) (.cons 3 (.int .i64) (.cons 9 (.slN 1) (.cons 10 (.int .i64) (.cons 11 (.int .i64) .nil))))))
abbrev pL75:PL:=(.cons (.slN 1) .nil)
abbrev pL76:PL:=(.cons (.int .u32) (.cons (.int .i64) .nil))
abbrev pL77:PL:=(.cons (.int .u32) .nil)
abbrev pL78:PL:=(.cons (.ptr 0 0) (.cons (.int .u32) (.cons (.int .u32) (.cons (.int .u32) .nil))))
abbrev pH79:PH:=(.cons 0 (.cells [.int .u32,.int .u32,.int .u32,.int .u32,.int .u32] (.cons (.int .u32) (.cons (.int .u32) (.cons (.int .u32) (.cons (.int .u32) (.cons (.int .u32) .nil)))))) .nil)
abbrev Q80:Type:=(Unit×List Eng.V×Unit×Int×Unit)×(Int×Int×Int×Int×Int×Unit)×List Eng.V×Unit
abbrev Q81:Type:=(Unit×Unit×Int×Unit)×(Int×Int×Int×Int×Int×Unit)×List Eng.V×Unit
abbrev Q82:Type:=(Unit×Unit×List Eng.V×Int×Unit)×(Int×Int×Int×Int×Int×Unit)×(Int×Int×Int×Int×Int×Unit)×Unit
abbrev pT83:PT:=(.cons 0 (.ptr 0 0) (.cons 9 (.ptr 208 0) (.cons 72 .aggS (.cons 73 (.int .i64) .nil))))
abbrev pH84:PH:=(.cons 0 (.cells [.int .u32,.int .u32,.int .u32,.int .u32,.int .u32] (.cons (.int .u32) (.cons (.int .u32) (.cons (.int .u32) (.cons (.int .u32) (.cons (.int .u32) .nil)))))) (.cons 208 (.cells [.int .u32,.int .u32,.int .u32,.int .u32,.int .u32] (.cons (.int .u32) (.cons (.int .u32) (.cons (.int .u32) (.cons (.int .u32) (.cons (.int .u32) .nil)))))) .nil))
abbrev pT85:PT:=(.cons 0 (.ptr 0 0) (.cons 4 (.pea 128) (.cons 8 (.int .i64) .nil)))
abbrev pH86:PH:=(.cons 0 (.cells [.int .u32,.int .u32,.int .u32,.int .u32,.int .u32] (.cons (.int .u32) (.cons (.int .u32) (.cons (.int .u32) (.cons (.int .u32) (.cons (.int .u32) .nil)))))) (.cons 128 (.arr 80 true false) .nil))
abbrev Q87:Type:=(Unit×List Eng.V×Unit×Int×Int×List Eng.V×Int×Int×Unit)×(Int×Int×Int×Int×Int×Unit)×List Eng.V×Unit
abbrev pT88:PT:=(.cons 0 (.ptr 0 0) (.cons 1 (.slN 1) (.cons 4 (.pea 128) (.cons 5 (.int .i64) (.cons 17 (.int .i64) (.cons 26 (.slN 1) (.cons 27 (.int .i64) (.cons 28 (.int .i64) .nil))))))))
abbrev pT89:PT:=(.cons 0 (.ptr 0 0) (.cons 1 (.slN 1) (.cons 4 (.pea 128) (.cons 17 (.int .i64) .nil))))
abbrev pL90:PL:=(.cons (.ptr 0 0) (.cons (.slN 1) .nil))
abbrev Q91:Type:=Int×Int×Int×Int×Int×Int×Int×Int×Int×Int×Int×Int×Int×Int×Int×Int×Int×Int×Int×Int×Unit
abbrev Q92:Type:=(Unit×Unit×Int×Int×Unit)×List Eng.V×(List Eng.V×Bool×Bool)×Unit
abbrev Q93:Type:=(Unit×List Eng.V×Unit×Unit)×List Eng.V×(Int×Int×Int×Int×Int×Unit)×Unit
abbrev Q94:Type:=(Unit×Unit×Int×Unit)×List Eng.V×(Int×Int×Int×Int×Int×Unit)×Unit
abbrev pT95:PT:=(.cons 2 (.pea 96) (.cons 6 (.ptr 160 0) (.cons 45 (.int .i64) .nil)))
abbrev pH96:PH:=(.cons 96 (.arr 20 true false) (.cons 160 (.cells [.int .u32,.int .u32,.int .u32,.int .u32,.int .u32] (.cons (.int .u32) (.cons (.int .u32) (.cons (.int .u32) (.cons (.int .u32) (.cons (.int .u32) .nil)))))) .nil))
abbrev pT97:PT:=(.cons 2 (.pea 96) (.cons 3 (.slN 1) (.cons 6 (.ptr 160 0) .nil)))
abbrev pT98:PT:=(.cons 2 (.pea 96) (.cons 3 (.sla 208) (.cons 4 (.int .u64) (.cons 5 (.int .i64) .nil))))
abbrev pH99:PH:=(.cons 96 (.arr 20 true false) (.cons 208 (.arrB 1) .nil))
abbrev pL100:PL:=(.cons (.agg (.cons (.int .u8) (.cons (.int .u8) (.cons (.int .u8) (.cons (.int .u8) (.cons (.int .u8) (.cons (.int .u8) (.cons (.int .u8) (.cons (.int .u8) (.cons (.int .u8) (.cons (.int .u8) (.cons (.int .u8) (.cons (.int .u8) (.cons (.int .u8) (.cons (.int .u8) (.cons (.int .u8) (.cons (.int .u8) (.cons (.int .u8) (.cons (.int .u8) (.cons (.int .u8) (.cons (.int .u8) .nil))))))))))))))))))))) .nil)
abbrev Q101:Type:=(List Eng.V×Unit×Unit×Unit×Int×Int×Unit)×List Eng.V×List Eng.V×List Eng.V×Unit
abbrev Q102:Type:=(List Eng.V×Unit×Unit×ByteArray×Unit×Int×Int×List Eng.V×Int×Int×Unit)×List Eng.V×List Eng.V×List Eng.V×Unit
abbrev pT103:PT:=(.cons 0 (.slN 4) (.cons 2 (.pea 96) (.cons 3 (.sla 640) (.cons 5 .str (.cons 8 (.sla 192) (.cons 9 (.int .i64) (.cons 10 (.int .i64) (.cons 14 (.slN 4) (.cons 15 (.int .i64) (.cons 16 (.int .i64) .nil))))))))))
abbrev pH104:PH:=(.cons 96 (.arr 20 true false) (.cons 192 (.arr 1 true false) (.cons 640 (.arr 1 true false) .nil)))
abbrev pT105:PT:=(.cons 0 (.slN 4) (.cons 2 (.pea 96) (.cons 3 (.sla 640) (.cons 8 (.sla 192) (.cons 9 (.int .i64) (.cons 10 (.int .i64) .nil))))))
abbrev pL106:PL:=(.cons (.slN 4) .nil)
abbrev Q107:Type:=(Unit×(Int×Int×Int×Int×Int×Int×Int×Int×Int×Int×Int×Int×Int×Int×Int×Int×Int×Int×Int×Int×Unit)×Int×Unit)×List Eng.V×Unit
abbrev pT108:PT:=(.cons 2 (.pea 96) (.cons 5 (.agg (.cons (.int .u8) (.cons (.int .u8) (.cons (.int .u8) (.cons (.int .u8) (.cons (.int .u8) (.cons (.int .u8) (.cons (.int .u8) (.cons (.int .u8) (.cons (.int .u8) (.cons (.int .u8) (.cons (.int .u8) (.cons (.int .u8) (.cons (.int .u8) (.cons (.int .u8) (.cons (.int .u8) (.cons (.int .u8) (.cons (.int .u8) (.cons (.int .u8) (.cons (.int .u8) (.cons (.int .u8) .nil))))))))))))))))))))) (.cons 6 (.int .i64) .nil)))
abbrev pH109:PH:=(.cons 96 (.arr 5 true false) .nil)
abbrev pL110:PL:=(.cons (.agg (.cons (.int .u32) (.cons (.int .u32) (.cons (.int .u32) (.cons (.int .u32) (.cons (.int .u32) .nil)))))) .nil)
abbrev Q111:Type:=(ByteArray×Unit×Unit×(Unit×Unit)×Unit×Unit×Unit×Int×Int×Unit)×(List Eng.V×Bool×Int×Unit)×(Int×Int×Unit)×(List Eng.V×Bool×Int×Int×Bool×Unit×Unit)×List (Go.Value×Eng.V)×(List Eng.V×Bool×Bool)×Unit
abbrev pT112:PT:=(.cons 0 .str (.cons 2 (.ptr 96 0) (.cons 3 (.ptr 112 0) (.cons 4 (.fn (.func 18) .nil .nil) (.cons 5 (.ptr 144 0) (.cons 6 (.sla 336) (.cons 18 (.sla 336) (.cons 19 (.int .i64) (.cons 20 (.int .i64) .nil)))))))))
abbrev pH113:PH:=(.cons 96 (.cells [.sl 3,.bool,.int .i64] (.cons (.slN 3) (.cons .bool (.cons (.int .i64) .nil)))) (.cons 112 (.cells [.int .i64,.int .i64] (.cons (.int .i64) (.cons (.int .i64) .nil))) (.cons 144 (.cells [.sl 3,.bool,.int .i64,.int .i64,.bool,.oth] (.cons (.slN 3) (.cons .bool (.cons (.int .i64) (.cons (.int .i64) (.cons .bool (.cons (.mp 288) .nil))))))) (.cons 288 .mapI (.cons 336 (.arrB 4) .nil)))))
abbrev Q114:Type:=(ByteArray×Unit×(Int×Int×Int×Int×Int×Int×Int×Int×Int×Int×Int×Int×Int×Int×Int×Int×Int×Int×Int×Int×Unit)×Int×Unit)×List Eng.V×Unit
abbrev pT115:PT:=(.cons 2 .str (.cons 3 (.sla 416) (.cons 6 (.agg (.cons (.int .u8) (.cons (.int .u8) (.cons (.int .u8) (.cons (.int .u8) (.cons (.int .u8) (.cons (.int .u8) (.cons (.int .u8) (.cons (.int .u8) (.cons (.int .u8) (.cons (.int .u8) (.cons (.int .u8) (.cons (.int .u8) (.cons (.int .u8) (.cons (.int .u8) (.cons (.int .u8) (.cons (.int .u8) (.cons (.int .u8) (.cons (.int .u8) (.cons (.int .u8) (.cons (.int .u8) .nil))))))))))))))))))))) (.cons 7 (.int .i64) .nil))))
abbrev pH116:PH:=(.cons 416 (.arr 1 true false) .nil)
abbrev Q117:Type:=(Unit×ByteArray×Unit×Int×Unit)×(Int×Int×Int×Int×Int×Unit)×List Eng.V×Unit
abbrev Q118:Type:=(ByteArray×ByteArray×Unit×Int×Int×Unit)×List Eng.V×Unit
abbrev pT119:PT:=(.cons 2 .str (.cons 5 .str (.cons 6 (.sla 480) (.cons 28 (.int .i64) (.cons 29 (.int .i64) .nil)))))
abbrev pH120:PH:=(.cons 480 (.arr 1 true false) .nil)
abbrev pT121:PT:=(.cons 1 (.ptr 80 0) (.cons 2 .str (.cons 3 (.pea 112) (.cons 8 (.int .i64) .nil))))
abbrev pH122:PH:=(.cons 80 (.cells [.int .u32,.int .u32,.int .u32,.int .u32,.int .u32] (.cons (.int .u32) (.cons (.int .u32) (.cons (.int .u32) (.cons (.int .u32) (.cons (.int .u32) .nil)))))) (.cons 112 (.arr 20 true false) .nil))
abbrev Q123:Type:=(ByteArray×Bool×ByteArray×Int×List Eng.V×Int×Int×Unit)×Unit
abbrev pT124:PT:=(.cons 4 .str (.cons 5 .bool (.cons 6 .str (.cons 9 (.int .i64) (.cons 42 (.slN 3) (.cons 43 (.int .i64) (.cons 44 (.int .i64) .nil)))))))
abbrev pL125:PL:=(.cons (.agg (.cons (.slN 3) (.cons .bool (.cons (.int .i64) .nil)))) (.cons (.int .i64) .nil))
abbrev pL126:PL:=(.cons .str (.cons .bool .nil))
abbrev Q127:Type:=(Unit×Unit×Bool×Int×Unit)×(List Eng.V×Bool×Int×Unit)×(List Eng.V×Bool×Int×Unit)×Unit
abbrev pT128:PT:=(.cons 2 (.ptr 96 0) (.cons 3 (.ptr 112 0) (.cons 4 .bool (.cons 5 (.int .i64) .nil))))
abbrev pH129:PH:=(.cons 96 (.cells [.sl 3,.bool,.int .i64] (.cons (.slN 3) (.cons .bool (.cons (.int .i64) .nil)))) (.cons 112 (.cells [.sl 3,.bool,.int .i64] (.cons (.slN 3) (.cons .bool (.cons (.int .i64) .nil)))) .nil))
abbrev pL130:PL:=(.cons (.agg (.cons (.slN 3) (.cons .bool (.cons (.int .i64) .nil)))) (.cons (.agg (.cons (.slN 3) (.cons .bool (.cons (.int .i64) .nil)))) .nil))
abbrev Q131:Type:=(ByteArray×Unit×Unit×Int×Int×Unit)×List Eng.V×Unit
abbrev pT208:PT:=(.cons 2 .str (.cons 3 (.sla 176) (.cons 8 (.sla 176) (.cons 9 (.int .i64) (.cons 10 (.int .i64) .nil)))))
abbrev pH209:PH:=(.cons 176 (.arr 1 true false) .nil)
abbrev Q210:Type:=ByteArray×ByteArray×ByteArray×ByteArray×ByteArray×ByteArray×ByteArray×ByteArray×ByteArray×ByteArray×ByteArray×ByteArray×Unit
abbrev pL211:PL:=(.cons (.agg (.cons .str (.cons .str (.cons .str (.cons .str (.cons .str (.cons .str (.cons .str (.cons .str (.cons .str (.cons .str (.cons .str (.cons .str .nil))))))))))))) .nil)
abbrev Q212:Type:=(Int×Bool×ByteArray×(ByteArray×ByteArray×ByteArray×ByteArray×ByteArray×ByteArray×ByteArray×ByteArray×ByteArray×ByteArray×ByteArray×ByteArray×Unit)×Int×Unit)×Unit
abbrev pT213:PT:=(.cons 2 (.int .i64) (.cons 3 .bool (.cons 4 .str (.cons 9 (.agg (.cons .str (.cons .str (.cons .str (.cons .str (.cons .str (.cons .str (.cons .str (.cons .str (.cons .str (.cons .str (.cons .str (.cons .str .nil))))))))))))) (.cons 10 (.int .i64) .nil)))))
abbrev pL214:PL:=(.cons (.int .i64) (.cons (.int .i64) (.cons (.int .i64) .nil)))
abbrev Q215:Type:=(Int×Bool×Unit×Unit×Int×Int×Unit)×List Eng.V×(List Eng.V×Bool×Bool)×Unit
abbrev pT216:PT:=(.cons 2 (.int .i64) (.cons 3 .bool (.cons 4 (.pea 128) (.cons 15 (.sla 240) (.cons 16 (.int .i64) (.cons 17 (.int .i64) .nil))))))
abbrev pH217:PH:=(.cons 128 (.arr 3 true false) (.cons 240 (.arrB 1) .nil))
abbrev Q218:Type:=Int×Int×Int×Int×Int×ByteArray×Bool×Unit
abbrev pL219:PL:=(.cons (.int .i64) (.cons (.slN 1) .nil))
abbrev pL220:PL:=(.cons (.agg (.cons (.int .i64) (.cons (.int .i64) (.cons (.int .i64) (.cons (.int .i64) (.cons (.int .i64) (.cons .str (.cons .bool .nil)))))))) (.cons .bool .nil))
abbrev pL221:PL:=(.cons .bool (.cons .bool .nil))
abbrev pL222:PL:=(.cons (.ptr 0 0) (.cons (.agg (.cons (.int .i64) (.cons (.int .i64) (.cons (.int .i64) (.cons (.int .i64) (.cons (.int .i64) (.cons .str (.cons .bool .nil)))))))) (.cons (.int .i64) .nil)))
abbrev pH223:PH:=(.cons 0 (.cells [.sl 3,.bool,.int .i64,.int .i64,.int .i64] (.cons (.slN 3) (.cons .bool (.cons (.int .i64) (.cons (.int .i64) (.cons (.int .i64) .nil)))))) .nil)
abbrev pH224:PH:=(.cons 0 (.cells [.sl 3,.bool,.int .i64,.int .i64,.int .i64] (.cons (.sla 1) (.cons .bool (.cons (.int .i64) (.cons (.int .i64) (.cons (.int .i64) .nil)))))) (.cons 1 (.arrB 3) .nil))
abbrev pL225:PL:=(.cons (.ptr 0 0) (.cons (.int .i64) (.cons (.slN 1) .nil)))
abbrev Q226:Type:=(Unit×Unit×Unit×Unit×Int×Int×Unit)×(List Eng.V×Bool×Int×Unit)×(Int×Int×Unit)×(List Eng.V×Bool×Int×Int×Int×Unit)×(List Eng.V×Bool×Bool)×Unit
abbrev pT227:PT:=(.cons 2 (.ptr 96 0) (.cons 3 (.ptr 112 0) (.cons 4 (.ptr 128 0) (.cons 10 (.sla 224) (.cons 11 (.int .i64) (.cons 12 (.int .i64) .nil))))))
abbrev pH228:PH:=(.cons 96 (.cells [.sl 3,.bool,.int .i64] (.cons (.slN 3) (.cons .bool (.cons (.int .i64) .nil)))) (.cons 112 (.cells [.int .i64,.int .i64] (.cons (.int .i64) (.cons (.int .i64) .nil))) (.cons 128 (.cells [.sl 3,.bool,.int .i64,.int .i64,.int .i64] (.cons (.slN 3) (.cons .bool (.cons (.int .i64) (.cons (.int .i64) (.cons (.int .i64) .nil)))))) (.cons 224 (.arrB 1) .nil))))
abbrev pL229:PL:=(.cons .str (.cons (.int .i64) (.cons (.slN 1) .nil)))
abbrev Q230:Type:=(Unit×ByteArray×Unit×Int×Int×Unit)×(List Eng.V×Bool×Bool)×List Eng.V×Unit
abbrev pT231:PT:=(.cons 1 (.sla 0) (.cons 4 .str (.cons 5 (.sla 208) (.cons 6 (.int .i64) (.cons 7 (.int .i64) .nil)))))
abbrev pH232:PH:=(.cons 0 (.arrB 1) (.cons 208 (.arr 1 true false) .nil))
abbrev pL233:PL:=(.cons .str (.cons (.sla 0) .nil))
abbrev Q234:Type:=(Unit×ByteArray×Bool×List Eng.V×Int×Int×Unit)×(List Eng.V×Bool×Int×Unit)×Unit
abbrev pT235:PT:=(.cons 1 (.ptr 80 0) (.cons 2 .str (.cons 3 .bool (.cons 15 (.slN 3) (.cons 16 (.int .i64) (.cons 17 (.int .i64) .nil))))))
abbrev Tq05:Type:=ByteArray→ByteArray→(Int→Prop)→Prop
def Yq05 (xq1c:Tq1c) (a0:ByteArray) (a1:ByteArray) (K:Int→Prop):Prop :=
 (if ((↑(ByteArray.size a1):Int) == 0) then
 K 0
 else
 (if (ByteArray.toList a1 == ByteArray.toList a0) then
 K 0
 else
 (if ((↑(ByteArray.size a1):Int) == 1) then
 (if (0 :Int)≤0∧0 < (↑(ByteArray.size a1):Int) then
 xq1c a0 (Eng.bAt a1 (0:Nat)) (fun r2 =>
 K r2)
 else
 False)
 else
 (if decide ((↑(ByteArray.size a1):Int)≥(↑(ByteArray.size a0):Int)) then
 K (-1)
 else
 False))))
def Xq05:Tq05:=Yq05 Xq1c
def Jq05 (X:Tq05):Inst:=mkI 110 pL1 .nil pL2 .nil X
def Iq05:Inst:=Jq05 Xq05
theorem Eq05 (xq1c:Tq1c):EqF Tryz.prog 143 gives Tryz.f110 [Jq1c xq1c] [] (Jq05 (Yq05 xq1c)):=fun x y K=>by kernel_rfl
theorem Iq05_ok:InstOk Tryz.prog G.1 Iq05:=iok (gives:=gives) [] (okCons Iq1c_ok okNil) 143 follows Tryz.func110 (by kernel_rfl) (fun x=>by kernel_rfl) (Eq05 Xq1c)
abbrev Tq0p:Type:=ByteArray→ByteArray→(Int→Prop)→Prop
def Yq0p (xq05:Tq05) (a0:ByteArray) (a1:ByteArray) (K:Int→Prop):Prop :=
 xq05 a0 a1 (fun r2 =>
 K r2)
def Xq0p:Tq0p:=Yq0p Xq05
def Jq0p (X:Tq0p):Inst:=mkI 118 pL1 .nil pL2 .nil X
def Iq0p:Inst:=Jq0p Xq0p
theorem Eq0p (xq05:Tq05):EqF Tryz.prog 8 gives Tryz.f118 [Jq05 xq05] [] (Jq0p (Yq0p xq05)):=fun x y K=>by kernel_rfl
theorem Iq0p_ok:InstOk Tryz.prog G.1 Iq0p:=iok (gives:=gives) [] (okCons Iq05_ok okNil) 8 follows Tryz.func118 (by kernel_rfl) (fun x=>by kernel_rfl) (Eq0p Xq05)
abbrev Tq0c:Type:=ByteArray→ByteArray→Int→Int→((List Eng.V)→Bool→Bool→Prop)→Prop
def Lq0c_0 (xq0p:Tq0p) (K:(List Eng.V)→Bool→Bool→Prop):(Q3→Prop)→Q3→Prop:=fun k6 x7 =>
 (if decide (x7.1.2.2.2.2.2.2.1 < x7.1.2.2.2.1) then
 xq0p x7.1.1 x7.1.2.1 (fun r8 =>
 (if decide (r8 < 0) then
 (if 0≤x7.1.2.2.2.2.2.2.1∧x7.1.2.2.2.2.2.2.1 < (↑(List.length x7.2.1):Int) then
 (if Int.toNat x7.1.2.2.2.2.2.2.1 < List.length x7.2.1 then
 (if 0≤w64 (x7.1.2.2.2.2.2.2.1+1)∧w64 (x7.1.2.2.2.2.2.2.1+1)≤(↑(List.length (List.set x7.2.1 (Int.toNat x7.1.2.2.2.2.2.2.1) (Eng.setE (List.getD x7.2.1 (Int.toNat x7.1.2.2.2.2.2.2.1) Eng.V.bad) (0:Nat) [Eng.V.c (Value.string x7.1.1)]))):Int) then
 (if (0 :Int)≤0∧0≤w64 (x7.1.2.2.2.2.2.2.1+1) then
 (if Nat.ble (Int.toNat (w64 (x7.1.2.2.2.2.2.2.1+1)) - (0:Nat)) (List.length (List.set x7.2.1 (Int.toNat x7.1.2.2.2.2.2.2.1) (Eng.setE (List.getD x7.2.1 (Int.toNat x7.1.2.2.2.2.2.2.1) Eng.V.bad) (0:Nat) [Eng.V.c (Value.string x7.1.1)]))) then
 (lt (List.take (Int.toNat (w64 (x7.1.2.2.2.2.2.2.1+1)) - (0:Nat)) (List.set x7.2.1 (Int.toNat x7.1.2.2.2.2.2.2.1) (Eng.setE (List.getD x7.2.1 (Int.toNat x7.1.2.2.2.2.2.2.1) Eng.V.bad) (0:Nat) [Eng.V.c (Value.string x7.1.1)]))) fun v9 =>
 K v9 true false)
 else
 K (Eng.cutL (List.set x7.2.1 (Int.toNat x7.1.2.2.2.2.2.2.1) (Eng.setE (List.getD x7.2.1 (Int.toNat x7.1.2.2.2.2.2.2.1) Eng.V.bad) (0:Nat) [Eng.V.c (Value.string x7.1.1)])) (0:Nat) (Int.toNat (w64 (x7.1.2.2.2.2.2.2.1+1)) - (0:Nat))) false true)
 else
 False)
 else
 False)
 else
 False)
 else
 False)
 else
 (if 0≤w64 (r8+x7.1.2.2.1)∧w64 (r8+x7.1.2.2.1)≤(↑(ByteArray.size x7.1.1):Int) then
 (if (0 :Int)≤0∧0≤w64 (r8+x7.1.2.2.1) then
 (lt (ByteArray.extract x7.1.1 (0:Nat) (Int.toNat (w64 (r8+x7.1.2.2.1)))) fun v10 =>
 (if 0≤x7.1.2.2.2.2.2.2.1∧x7.1.2.2.2.2.2.2.1 < (↑(List.length x7.2.1):Int) then
 (if Int.toNat x7.1.2.2.2.2.2.2.1 < List.length x7.2.1 then
 (if 0≤(↑(ByteArray.size x7.1.1):Int)∧(↑(ByteArray.size x7.1.1):Int)≤(↑(ByteArray.size x7.1.1):Int) then
 (if 0≤w64 (r8+(↑(ByteArray.size x7.1.2.1):Int))∧w64 (r8+(↑(ByteArray.size x7.1.2.1):Int))≤(↑(ByteArray.size x7.1.1):Int) then
 (lt (ByteArray.extract x7.1.1 (Int.toNat (w64 (r8+(↑(ByteArray.size x7.1.2.1):Int)))) (Int.toNat (↑(ByteArray.size x7.1.1):Int))) fun v11 =>
 k6 ((v11,x7.1.2.1,x7.1.2.2.1,x7.1.2.2.2.1,(),(),w64 (x7.1.2.2.2.2.2.2.1+1),()),List.set x7.2.1 (Int.toNat x7.1.2.2.2.2.2.2.1) (Eng.setE (List.getD x7.2.1 (Int.toNat x7.1.2.2.2.2.2.2.1) Eng.V.bad) (0:Nat) [Eng.V.c (Value.string v10)]),()))
 else
 False)
 else
 False)
 else
 False)
 else
 False))
 else
 False)
 else
 False)))
 else
 (if 0≤x7.1.2.2.2.2.2.2.1∧x7.1.2.2.2.2.2.2.1 < (↑(List.length x7.2.1):Int) then
 (if Int.toNat x7.1.2.2.2.2.2.2.1 < List.length x7.2.1 then
 (if 0≤w64 (x7.1.2.2.2.2.2.2.1+1)∧w64 (x7.1.2.2.2.2.2.2.1+1)≤(↑(List.length (List.set x7.2.1 (Int.toNat x7.1.2.2.2.2.2.2.1) (Eng.setE (List.getD x7.2.1 (Int.toNat x7.1.2.2.2.2.2.2.1) Eng.V.bad) (0:Nat) [Eng.V.c (Value.string x7.1.1)]))):Int) then
 (if (0 :Int)≤0∧0≤w64 (x7.1.2.2.2.2.2.2.1+1) then
 (if Nat.ble (Int.toNat (w64 (x7.1.2.2.2.2.2.2.1+1)) - (0:Nat)) (List.length (List.set x7.2.1 (Int.toNat x7.1.2.2.2.2.2.2.1) (Eng.setE (List.getD x7.2.1 (Int.toNat x7.1.2.2.2.2.2.2.1) Eng.V.bad) (0:Nat) [Eng.V.c (Value.string x7.1.1)]))) then
 (lt (List.take (Int.toNat (w64 (x7.1.2.2.2.2.2.2.1+1)) - (0:Nat)) (List.set x7.2.1 (Int.toNat x7.1.2.2.2.2.2.2.1) (Eng.setE (List.getD x7.2.1 (Int.toNat x7.1.2.2.2.2.2.2.1) Eng.V.bad) (0:Nat) [Eng.V.c (Value.string x7.1.1)]))) fun v12 =>
 K v12 true false)
 else
 K (Eng.cutL (List.set x7.2.1 (Int.toNat x7.1.2.2.2.2.2.2.1) (Eng.setE (List.getD x7.2.1 (Int.toNat x7.1.2.2.2.2.2.2.1) Eng.V.bad) (0:Nat) [Eng.V.c (Value.string x7.1.1)])) (0:Nat) (Int.toNat (w64 (x7.1.2.2.2.2.2.2.1+1)) - (0:Nat))) false true)
 else
 False)
 else
 False)
 else
 False)
 else
 False))
def Lq0c_0p:Lp:=⟨1807,[.trim 1807],pT4,pH5,0⟩
def Yq0c (xq25:Tq25) (xq0p:Tq0p) (a0:ByteArray) (a1:ByteArray) (a2:Int) (a3:Int) (K:(List Eng.V)→Bool→Bool→Prop):Prop :=
 (if (a3 == 0) then
 K [] true true
 else
 (if (ByteArray.toList a1 == ByteArray.toList (ByteArray.mk #[])) then
 False
 else
 (if decide (a3 < 0) then
 xq25 a0 a1 (fun r4 =>
 (lt (if w64 ((↑(ByteArray.size a0):Int)+1) < w64 (r4+1) then w64 ((↑(ByteArray.size a0):Int)+1) else w64 (r4+1)) fun v5 =>
 (if 0≤v5∧v5≤v5∧v5≤4294967296 then
 lp (Lq0c_0 xq0p K) ((a0,a1,a2,w64 (v5 - 1),(),(),0,()),List.replicate (Int.toNat v5) (Eng.ofVal (Value.string (ByteArray.mk #[]))),())
 else
 False)))
 else
 (lt (if w64 ((↑(ByteArray.size a0):Int)+1) < a3 then w64 ((↑(ByteArray.size a0):Int)+1) else a3) fun v13 =>
 (if 0≤v13∧v13≤v13∧v13≤4294967296 then
 lp (Lq0c_0 xq0p K) ((a0,a1,a2,w64 (v13 - 1),(),(),0,()),List.replicate (Int.toNat v13) (Eng.ofVal (Value.string (ByteArray.mk #[]))),())
 else
 False)))))
def Xq0c:Tq0c:=Yq0c Xq25 Xq0p
def Jq0c (X:Tq0c):Inst:=mkI 90 pL6 .nil pL7 pH8 X
def Iq0c:Inst:=Jq0c Xq0c
theorem Eq0c (xq25:Tq25) (xq0p:Tq0p):EqF Tryz.prog 66 gives Tryz.f90 [Jq25 xq25,Jq0p xq0p] [Lq0c_0p] (Jq0c (Yq0c xq25 xq0p)):=fun x y K=>by kernel_rfl
theorem Iq0c_ok:InstOk Tryz.prog G.1 Iq0c:=iok (gives:=gives) [Lq0c_0p] (okCons Iq25_ok (okCons Iq0p_ok okNil)) 66 follows Tryz.func90 (by kernel_rfl) (fun x=>by kernel_rfl) (Eq0c Xq25 Xq0p)
abbrev Tq0o:Type:=ByteArray→ByteArray→((List Eng.V)→Bool→Bool→Prop)→Prop
def Yq0o (xq0c:Tq0c) (a0:ByteArray) (a1:ByteArray) (K:(List Eng.V)→Bool→Bool→Prop):Prop :=
 xq0c a0 a1 0 (-1) (fun r2 r3 r4 =>
 K r2 r3 r4)
def Xq0o:Tq0o:=Yq0o Xq0c
def Jq0o (X:Tq0o):Inst:=mkI 56 pL1 .nil pL7 pH8 X
def Iq0o:Inst:=Jq0o Xq0o
theorem Eq0o (xq0c:Tq0c):EqF Tryz.prog 8 gives Tryz.f56 [Jq0c xq0c] [] (Jq0o (Yq0o xq0c)):=fun x y K=>by kernel_rfl
theorem Iq0o_ok:InstOk Tryz.prog G.1 Iq0o:=iok (gives:=gives) [] (okCons Iq0c_ok okNil) 8 follows Tryz.func56 (by kernel_rfl) (fun x=>by kernel_rfl) (Eq0o Xq0c)
abbrev Tq03:Type:=ByteArray→ByteArray→(Bool→Prop)→Prop
def Yq03 (a0:ByteArray) (a1:ByteArray) (K:Bool→Prop):Prop :=
 (if decide ((↑(ByteArray.size a0):Int)≥(↑(ByteArray.size a1):Int)) then
 (if 0≤(↑(ByteArray.size a0):Int)∧(↑(ByteArray.size a0):Int)≤(↑(ByteArray.size a0):Int) then
 (if 0≤w64 ((↑(ByteArray.size a0):Int) - (↑(ByteArray.size a1):Int))∧w64 ((↑(ByteArray.size a0):Int) - (↑(ByteArray.size a1):Int))≤(↑(ByteArray.size a0):Int) then
 (lt (ByteArray.extract a0 (Int.toNat (w64 ((↑(ByteArray.size a0):Int) - (↑(ByteArray.size a1):Int)))) (Int.toNat (↑(ByteArray.size a0):Int))) fun v2 =>
 K (ByteArray.toList v2 == ByteArray.toList a1))
 else
 False)
 else
 False)
 else
 K false)
def Xq03:Tq03:=Yq03
def Jq03 (X:Tq03):Inst:=mkI 119 pL1 .nil pL9 .nil X
def Iq03:Inst:=Jq03 Xq03
theorem Eq03:EqF Tryz.prog 21 gives Tryz.f119 [] [] (Jq03 (Yq03)):=fun x y K=>by kernel_rfl
theorem Iq03_ok:InstOk Tryz.prog G.1 Iq03:=iok (gives:=gives) [] okNil 21 follows Tryz.func119 (by kernel_rfl) (fun x=>by kernel_rfl) (Eq03)
abbrev Tq01:Type:=ByteArray→ByteArray→(ByteArray→Prop)→Prop
def Yq01 (xq03:Tq03) (a0:ByteArray) (a1:ByteArray) (K:ByteArray→Prop):Prop :=
 xq03 a0 a1 (fun r2 =>
 (if r2 then
 (if 0≤w64 ((↑(ByteArray.size a0):Int) - (↑(ByteArray.size a1):Int))∧w64 ((↑(ByteArray.size a0):Int) - (↑(ByteArray.size a1):Int))≤(↑(ByteArray.size a0):Int) then
 (if (0 :Int)≤0∧0≤w64 ((↑(ByteArray.size a0):Int) - (↑(ByteArray.size a1):Int)) then
 (lt (ByteArray.extract a0 (0:Nat) (Int.toNat (w64 ((↑(ByteArray.size a0):Int) - (↑(ByteArray.size a1):Int))))) fun v3 =>
 K v3)
 else
 False)
 else
 False)
 else
 K a0))
def Xq01:Tq01:=Yq01 Xq03
def Jq01 (X:Tq01):Inst:=mkI 91 pL1 .nil pL0 .nil X
def Iq01:Inst:=Jq01 Xq01
theorem Eq01 (xq03:Tq03):EqF Tryz.prog 16 gives Tryz.f91 [Jq03 xq03] [] (Jq01 (Yq01 xq03)):=fun x y K=>by kernel_rfl
theorem Iq01_ok:InstOk Tryz.prog G.1 Iq01:=iok (gives:=gives) [] (okCons Iq03_ok okNil) 16 follows Tryz.func91 (by kernel_rfl) (fun x=>by kernel_rfl) (Eq01 Xq03)
abbrev Tq0a:Type:=ByteArray→ByteArray→(ByteArray→Prop)→Prop
def Yq0a (xq01:Tq01) (a0:ByteArray) (a1:ByteArray) (K:ByteArray→Prop):Prop :=
 xq01 a0 a1 (fun r2 =>
 K r2)
def Xq0a:Tq0a:=Yq0a Xq01
def Jq0a (X:Tq0a):Inst:=mkI 57 pL1 .nil pL0 .nil X
def Iq0a:Inst:=Jq0a Xq0a
theorem Eq0a (xq01:Tq01):EqF Tryz.prog 8 gives Tryz.f57 [Jq01 xq01] [] (Jq0a (Yq0a xq01)):=fun x y K=>by kernel_rfl
theorem Iq0a_ok:InstOk Tryz.prog G.1 Iq0a:=iok (gives:=gives) [] (okCons Iq01_ok okNil) 8 follows Tryz.func57 (by kernel_rfl) (fun x=>by kernel_rfl) (Eq0a Xq01)
abbrev Tq0y:Type:=ByteArray→((List Eng.V)→Bool→Bool→Prop)→Prop
def Lq0y_1 (xq0a:Tq0a) (K:(List Eng.V)→Bool→Bool→Prop):(Q10→Prop)→Q10→Prop:=fun k10 x11 =>
 (if decide (x11.1.2.2.2.1 < x11.1.2.2.1) then
 (if 0≤x11.1.2.2.2.1∧x11.1.2.2.2.1 < (↑(List.length x11.2.1.1):Int) then
 (Eng.asStr (Eng.getC x11.2.1.1 (Int.toNat x11.1.2.2.2.1) (0:Nat)) False fun t12 =>
 xq0a t12 (ByteArray.mk #[(13:UInt8)]) (fun r13 =>
 (if 0≤x11.1.2.2.2.1∧x11.1.2.2.2.1 < (↑(List.length x11.2.1.1):Int) then
 (if x11.2.1.2.2=false then
 (if Int.toNat x11.1.2.2.2.1 < List.length x11.2.1.1 then
 k10 (((),(),x11.1.2.2.1,w64 (x11.1.2.2.2.1+1),()),(List.set x11.2.1.1 (Int.toNat x11.1.2.2.2.1) (Eng.setE (List.getD x11.2.1.1 (Int.toNat x11.1.2.2.2.1) Eng.V.bad) (0:Nat) [Eng.V.c (Value.string r13)]),x11.2.1.2),())
 else
 False)
 else
 False)
 else
 False)))
 else
 False)
 else
 K x11.2.1.1 x11.2.1.2.1 x11.2.1.2.2)
def Lq0y_1p:Lp:=⟨3145740,[.trim 3145740],pT11,pH12,0⟩
def Lq0y_0 (xq0a:Tq0a) (K:(List Eng.V)→Bool→Bool→Prop):(Q13→Prop)→Q13→Prop:=fun k5 x6 =>
 (if decide (x6.1.2.2.2.1 < x6.1.2.2.1) then
 (if 0≤x6.1.2.2.2.1∧x6.1.2.2.2.1 < (↑(x6.1.2.1):Int) then
 (Eng.asStr (Eng.getC x6.2.1.1 ((0:Nat)+Int.toNat x6.1.2.2.2.1) (0:Nat)) False fun t7 =>
 xq0a t7 (ByteArray.mk #[(13:UInt8)]) (fun r8 =>
 (if 0≤x6.1.2.2.2.1∧x6.1.2.2.2.1 < (↑(x6.1.2.1):Int) then
 (if x6.2.1.2.2=false then
 (if (0:Nat)+Int.toNat x6.1.2.2.2.1 < List.length x6.2.1.1 then
 (lt (List.set x6.2.1.1 ((0:Nat)+Int.toNat x6.1.2.2.2.1) (Eng.setE (List.getD x6.2.1.1 ((0:Nat)+Int.toNat x6.1.2.2.2.1) Eng.V.bad) (0:Nat) [Eng.V.c (Value.string r8)])) fun v9 =>
 k5 (((),x6.1.2.1,x6.1.2.2.1,w64 (x6.1.2.2.2.1+1),()),(v9,x6.2.1.2),()))
 else
 False)
 else
 False)
 else
 False)))
 else
 False)
 else
 (if x6.2.1.2.1 then
 (if x6.2.1.2.2=false then
 (if Nat.ble x6.1.2.1 (List.length x6.2.1.1) then
 K (List.take x6.1.2.1 x6.2.1.1) true false
 else
 K (Eng.cutL x6.2.1.1 (0:Nat) x6.1.2.1) false true)
 else
 K (Eng.cutL x6.2.1.1 (0:Nat) x6.1.2.1) false true)
 else
 K (Eng.cutL x6.2.1.1 (0:Nat) x6.1.2.1) false true))
def Lq0y_0p:Lp:=⟨3145740,[.trim 3145740],pT14,pH12,0⟩
def Yq0y (xq0o:Tq0o) (xq0a:Tq0a) (a0:ByteArray) (K:(List Eng.V)→Bool→Bool→Prop):Prop :=
 xq0o a0 (ByteArray.mk #[(10:UInt8)]) (fun r1 r2 r3 =>
 (if 0≤w64 ((↑(List.length r1):Int) - 1)∧w64 ((↑(List.length r1):Int) - 1) < (↑(List.length r1):Int) then
 (Eng.asStr (Eng.getC r1 (Int.toNat (w64 ((↑(List.length r1):Int) - 1))) (0:Nat)) False fun t4 =>
 (if (ByteArray.toList t4 == ByteArray.toList (ByteArray.mk #[])) then
 (if 0≤w64 ((↑(List.length r1):Int) - 1)∧w64 ((↑(List.length r1):Int) - 1)≤(↑(List.length r1):Int) then
 (if (0 :Int)≤0∧0≤w64 ((↑(List.length r1):Int) - 1) then
 lp (Lq0y_0 xq0a K) (((),Int.toNat (w64 ((↑(List.length r1):Int) - 1)) - (0:Nat),(↑(Int.toNat (w64 ((↑(List.length r1):Int) - 1)) - (0:Nat)):Int),0,()),(r1,r2,r3),())
 else
 False)
 else
 False)
 else
 lp (Lq0y_1 xq0a K) (((),(),(↑(List.length r1):Int),0,()),(r1,r2,r3),())))
 else
 False))
def Xq0y:Tq0y:=Yq0y Xq0o Xq0a
def Jq0y (X:Tq0y):Inst:=mkI 24 pL0 .nil pL7 pH8 X
def Iq0y:Inst:=Jq0y Xq0y
theorem Eq0y (xq0o:Tq0o) (xq0a:Tq0a):EqF Tryz.prog 34 gives Tryz.f24 [Jq0o xq0o,Jq0a xq0a] [Lq0y_0p,Lq0y_1p] (Jq0y (Yq0y xq0o xq0a)):=fun x y K=>by kernel_rfl
theorem Iq0y_ok:InstOk Tryz.prog G.1 Iq0y:=iok (gives:=gives) [Lq0y_0p,Lq0y_1p] (okCons Iq0o_ok (okCons Iq0a_ok okNil)) 34 follows Tryz.func24 (by kernel_rfl) (fun x=>by kernel_rfl) (Eq0y Xq0o Xq0a)
abbrev Tq0u:Type:=ByteArray→((List Eng.V)→Bool→Bool→Prop)→Prop
def Lq0u_0 (K:(List Eng.V)→Bool→Bool→Prop):(Q15→Prop)→Q15→Prop:=fun k1 x2 =>
 (if x2.2.1.2 < ByteArray.size x2.2.1.1 then
 (if ((↑(Prod.fst (Go.Utf8.decode x2.2.1.1 x2.2.1.2)):Int) == 32) then
 (if decide (x2.1.2.2.1≥0) then
 (if 0≤(↑(x2.2.1.2):Int)∧(↑(x2.2.1.2):Int)≤(↑(ByteArray.size x2.1.1):Int) then
 (if 0≤x2.1.2.2.1∧x2.1.2.2.1≤(↑(x2.2.1.2):Int) then
 (if Eng.roomOk (List.length x2.2.2.1+List.length [Eng.V.c (Value.string (ByteArray.extract x2.1.1 (Int.toNat x2.1.2.2.1) (Int.toNat (↑(x2.2.1.2):Int))))]) (16:Nat) then
 k1 ((x2.1.1,(),(-1),(),()),(x2.2.1.1,x2.2.1.2+Prod.snd (Go.Utf8.decode x2.2.1.1 x2.2.1.2)),x2.2.2.1++[Eng.V.c (Value.string (ByteArray.extract x2.1.1 (Int.toNat x2.1.2.2.1) (Int.toNat (↑(x2.2.1.2):Int))))],())
 else
 False)
 else
 False)
 else
 False)
 else
 k1 ((x2.1.1,(),x2.1.2.2.1,(),()),(x2.2.1.1,x2.2.1.2+Prod.snd (Go.Utf8.decode x2.2.1.1 x2.2.1.2)),x2.2.2))
 else
 (if ((↑(Prod.fst (Go.Utf8.decode x2.2.1.1 x2.2.1.2)):Int) == 9) then
 (if decide (x2.1.2.2.1≥0) then
 (if 0≤(↑(x2.2.1.2):Int)∧(↑(x2.2.1.2):Int)≤(↑(ByteArray.size x2.1.1):Int) then
 (if 0≤x2.1.2.2.1∧x2.1.2.2.1≤(↑(x2.2.1.2):Int) then
 (if Eng.roomOk (List.length x2.2.2.1+List.length [Eng.V.c (Value.string (ByteArray.extract x2.1.1 (Int.toNat x2.1.2.2.1) (Int.toNat (↑(x2.2.1.2):Int))))]) (16:Nat) then
 k1 ((x2.1.1,(),(-1),(),()),(x2.2.1.1,x2.2.1.2+Prod.snd (Go.Utf8.decode x2.2.1.1 x2.2.1.2)),x2.2.2.1++[Eng.V.c (Value.string (ByteArray.extract x2.1.1 (Int.toNat x2.1.2.2.1) (Int.toNat (↑(x2.2.1.2):Int))))],())
 else
 False)
 else
 False)
 else
 False)
 else
 (if (!(↑(Prod.fst (Go.Utf8.decode x2.2.1.1 x2.2.1.2)):Int) == 9) then
 (if decide (x2.1.2.2.1 < 0) then
 k1 ((x2.1.1,(),(↑(x2.2.1.2):Int),(),()),(x2.2.1.1,x2.2.1.2+Prod.snd (Go.Utf8.decode x2.2.1.1 x2.2.1.2)),x2.2.2)
 else
 k1 ((x2.1.1,(),x2.1.2.2.1,(),()),(x2.2.1.1,x2.2.1.2+Prod.snd (Go.Utf8.decode x2.2.1.1 x2.2.1.2)),x2.2.2))
 else
 k1 ((x2.1.1,(),x2.1.2.2.1,(),()),(x2.2.1.1,x2.2.1.2+Prod.snd (Go.Utf8.decode x2.2.1.1 x2.2.1.2)),x2.2.2)))
 else
 (if (!(↑(Prod.fst (Go.Utf8.decode x2.2.1.1 x2.2.1.2)):Int) == 9) then
 (if decide (x2.1.2.2.1 < 0) then
 k1 ((x2.1.1,(),(↑(x2.2.1.2):Int),(),()),(x2.2.1.1,x2.2.1.2+Prod.snd (Go.Utf8.decode x2.2.1.1 x2.2.1.2)),x2.2.2)
 else
 k1 ((x2.1.1,(),x2.1.2.2.1,(),()),(x2.2.1.1,x2.2.1.2+Prod.snd (Go.Utf8.decode x2.2.1.1 x2.2.1.2)),x2.2.2))
 else
 k1 ((x2.1.1,(),x2.1.2.2.1,(),()),(x2.2.1.1,x2.2.1.2+Prod.snd (Go.Utf8.decode x2.2.1.1 x2.2.1.2)),x2.2.2))))
 else
 K x2.2.2.1 true false)
def Lq0u_0p:Lp:=⟨525,[.trim 525,.fat 2 1 736,.trim 525],pT16,pH17,0⟩
def Yq0u (a0:ByteArray) (K:(List Eng.V)→Bool→Bool→Prop):Prop :=
 (if (↑(ByteArray.size a0+(1:Nat)):Int) > 9223372036854775807 then
 False
 else
 lp (Lq0u_0 K) ((a0,(),(-1),(),()),(a0++ByteArray.mk #[(32:UInt8)],(0:Nat)),[],()))
def Xq0u:Tq0u:=Yq0u
def Jq0u (X:Tq0u):Inst:=mkI 49 pL0 .nil pL7 pH8 X
def Iq0u:Inst:=Jq0u Xq0u
theorem Eq0u:EqF Tryz.prog 42 gives Tryz.f49 [] [Lq0u_0p] (Jq0u (Yq0u)):=fun x y K=>by kernel_rfl
theorem Iq0u_ok:InstOk Tryz.prog G.1 Iq0u:=iok (gives:=gives) [Lq0u_0p] okNil 42 follows Tryz.func49 (by kernel_rfl) (fun x=>by kernel_rfl) (Eq0u)
abbrev Tq1n:Type:=Int→(Int→Prop)→Prop
def Yq1n (a0:Int) (K:Int→Prop):Prop :=
 (if decide (a0 < 0) then
 K (wu64 (0 - wu64 a0))
 else
 K (wu64 a0))
def Xq1n:Tq1n:=Yq1n
def Jq1n (X:Tq1n):Inst:=mkI 132 pL2 .nil pL18 .nil X
def Iq1n:Inst:=Jq1n Xq1n
theorem Eq1n:EqF Tryz.prog 10 gives Tryz.f132 [] [] (Jq1n (Yq1n)):=fun x y K=>by kernel_rfl
theorem Iq1n_ok:InstOk Tryz.prog G.1 Iq1n:=iok (gives:=gives) [] okNil 10 follows Tryz.func132 (by kernel_rfl) (fun x=>by kernel_rfl) (Eq1n)
abbrev Tq0h:Type:=Int→Int→(Int→Int→Prop)→Prop
def Yq0h (a0:Int) (a1:Int) (K:Int→Int→Prop):Prop :=
 (lt (wu64 (wu64 (↑(BitVec.toNat (BitVec.ofInt (64:Nat) a0 &&& BitVec.ofInt (64:Nat) 4294967295)):Int) * wu64 (↑(BitVec.toNat (BitVec.ofInt (64:Nat) a1 &&& BitVec.ofInt (64:Nat) 4294967295)):Int))) fun v2 =>
 (lt (wu64 (Int.fdiv a0 4294967296 * wu64 (↑(BitVec.toNat (BitVec.ofInt (64:Nat) a1 &&& BitVec.ofInt (64:Nat) 4294967295)):Int))) fun v3 =>
 (lt (wu64 (↑(BitVec.toNat (BitVec.ofInt (64:Nat) (wu64 (v3+Int.fdiv v2 4294967296)) &&& BitVec.ofInt (64:Nat) 4294967295)):Int)) fun v4 =>
 (lt (Int.fdiv (wu64 (v3+Int.fdiv v2 4294967296)) 4294967296) fun v5 =>
 (lt (wu64 (wu64 (↑(BitVec.toNat (BitVec.ofInt (64:Nat) a0 &&& BitVec.ofInt (64:Nat) 4294967295)):Int) * Int.fdiv a1 4294967296)) fun v6 =>
 (lt (wu64 (Int.fdiv a0 4294967296 * Int.fdiv a1 4294967296)) fun v7 =>
 (lt (wu64 (wu64 (v7+v5)+Int.fdiv (wu64 (v4+v6)) 4294967296)) fun v8 =>
 K v8 (wu64 (a0 * a1)))))))))
def Xq0h:Tq0h:=Yq0h
def Jq0h (X:Tq0h):Inst:=mkI 131 pL19 .nil pL19 .nil X
def Iq0h:Inst:=Jq0h Xq0h
theorem Eq0h:EqF Tryz.prog 51 gives Tryz.f131 [] [] (Jq0h (Yq0h)):=fun x y K=>by kernel_rfl
theorem Iq0h_ok:InstOk Tryz.prog G.1 Iq0h:=iok (gives:=gives) [] okNil 51 follows Tryz.func131 (by kernel_rfl) (fun x=>by kernel_rfl) (Eq0h)
abbrev Tq1z:Type:=Int→Int→(Int→Bool→Prop)→Prop
def Yq1z (xq1n:Tq1n) (xq0h:Tq0h) (a0:Int) (a1:Int) (K:Int→Bool→Prop):Prop :=
 xq1n a0 (fun r2 =>
 xq1n a1 (fun r3 =>
 xq0h r2 r3 (fun r4 r5 =>
 (if (!decide (a0 < 0) == decide (a1 < 0)) then
 (if (r4 != 0) then
 K 0 false
 else
 (if decide (r5 > 9223372036854775808) then
 K 0 false
 else
 K (w64 (a0 * a1)) true))
 else
 (if (r4 != 0) then
 K 0 false
 else
 (if decide (r5 > 9223372036854775807) then
 K 0 false
 else
 K (w64 (a0 * a1)) true))))))
def Xq1z:Tq1z:=Yq1z Xq1n Xq0h
def Jq1z (X:Tq1z):Inst:=mkI 109 pL20 .nil pL21 .nil X
def Iq1z:Inst:=Jq1z Xq1z
theorem Eq1z (xq1n:Tq1n) (xq0h:Tq0h):EqF Tryz.prog 34 gives Tryz.f109 [Jq1n xq1n,Jq0h xq0h] [] (Jq1z (Yq1z xq1n xq0h)):=fun x y K=>by kernel_rfl
theorem Iq1z_ok:InstOk Tryz.prog G.1 Iq1z:=iok (gives:=gives) [] (okCons Iq1n_ok (okCons Iq0h_ok okNil)) 34 follows Tryz.func109 (by kernel_rfl) (fun x=>by kernel_rfl) (Eq1z Xq1n Xq0h)
abbrev Tq20:Type:=Int→Int→(Int→Bool→Prop)→Prop
def Yq20 (a0:Int) (a1:Int) (K:Int→Bool→Prop):Prop :=
 (lt (!decide (w64 (a0+a1) > a0) == decide (a1 > 0)) fun v2 =>
 (if v2 then
 (if (a1 != 0) then
 K 0 false
 else
 K (w64 (a0+a1)) true)
 else
 K (w64 (a0+a1)) true))
def Xq20:Tq20:=Yq20
def Jq20 (X:Tq20):Inst:=mkI 68 pL20 .nil pL21 .nil X
def Iq20:Inst:=Jq20 Xq20
theorem Eq20:EqF Tryz.prog 21 gives Tryz.f68 [] [] (Jq20 (Yq20)):=fun x y K=>by kernel_rfl
theorem Iq20_ok:InstOk Tryz.prog G.1 Iq20:=iok (gives:=gives) [] okNil 21 follows Tryz.func68 (by kernel_rfl) (fun x=>by kernel_rfl) (Eq20)
abbrev Tq0r:Type:=ByteArray→(Int→Bool→Prop)→Prop
def Lq0r_0 (xq1z:Tq1z) (xq20:Tq20) (K:Int→Bool→Prop):(Q22→Prop)→Q22→Prop:=fun k1 x2 =>
 (if decide (x2.1.2.2.2.2.2.1 < x2.1.2.2.2.2.1) then
 (if 0≤x2.1.2.2.2.2.2.1∧x2.1.2.2.2.2.2.1 < (↑(List.length x2.2.1):Int) then
 (Eng.asInt IntKind.u8 (Eng.getC x2.2.1 (Int.toNat x2.1.2.2.2.2.2.1) (0:Nat)) False fun n3 =>
 xq1z x2.1.2.1 10 (fun r4 r5 =>
 xq20 r4 (w64 (w64 n3 - 48)) (fun r6 r7 =>
 (if decide (n3 < 48) then
 K 0 false
 else
 (if decide (n3 > 57) then
 K 0 false
 else
 (if (!r5) then
 K 0 false
 else
 (if (!r7) then
 K 0 false
 else
 k1 ((x2.1.1,r6,x2.1.2.2.1,(),x2.1.2.2.2.2.1,w64 (x2.1.2.2.2.2.2.1+1),()),x2.2))))))))
 else
 False)
 else
 K x2.1.2.1 (decide ((↑(ByteArray.size x2.1.1):Int) > 0)))
def Lq0r_0p:Lp:=⟨14349,[.trim 14349],pT23,pH24,0⟩
def Yq0r (xq1z:Tq1z) (xq20:Tq20) (a0:ByteArray) (K:Int→Bool→Prop):Prop :=
 lp (Lq0r_0 xq1z xq20 K) ((a0,0,false,(),(↑(List.length (Eng.bytesV a0)):Int),0,()),Eng.bytesV a0,())
def Xq0r:Tq0r:=Yq0r Xq1z Xq20
def Jq0r (X:Tq0r):Inst:=mkI 76 pL0 .nil pL21 .nil X
def Iq0r:Inst:=Jq0r Xq0r
theorem Eq0r (xq1z:Tq1z) (xq20:Tq20):EqF Tryz.prog 50 gives Tryz.f76 [Jq1z xq1z,Jq20 xq20] [Lq0r_0p] (Jq0r (Yq0r xq1z xq20)):=fun x y K=>by kernel_rfl
theorem Iq0r_ok:InstOk Tryz.prog G.1 Iq0r:=iok (gives:=gives) [Lq0r_0p] (okCons Iq1z_ok (okCons Iq20_ok okNil)) 50 follows Tryz.func76 (by kernel_rfl) (fun x=>by kernel_rfl) (Eq0r Xq1z Xq20)
abbrev Tq0t:Type:=ByteArray→ByteArray→Int→(Q25→(List Eng.V)→Bool→Bool→(List Eng.V)→Bool→Bool→Prop)→Prop
def Lq0t_0 (xq0r:Tq0r) (K:Q25→(List Eng.V)→Bool→Bool→(List Eng.V)→Bool→Bool→Prop):(Q26→Prop)→Q26→Prop:=fun k6 x7 =>
 (if decide (x7.1.2.2.2.2.2.1 < x7.1.2.2.2.2.1) then
 (if 0≤x7.1.2.2.2.2.2.1∧x7.1.2.2.2.2.2.1 < (↑(List.length x7.2.2.2.1.1):Int) then
 (Eng.asStr (Eng.getC x7.2.2.2.1.1 (Int.toNat x7.1.2.2.2.2.2.1) (0:Nat)) False fun t8 =>
 xq0r t8 (fun r9 r10 =>
 (if Eng.roomOk (List.length x7.2.2.2.2.1+List.length [Eng.V.c (Value.int IntKind.i64 r9)]) (8:Nat) then
 (if x7.2.2.1.2.2.2.1 then
 k6 ((x7.1.1,(),(),(),x7.1.2.2.2.2.1,w64 (x7.1.2.2.2.2.2.1+1),()),(x7.2.1.1,(),(),x7.2.1.2.2.2),(x7.2.2.1.1,(),(),r10,()),x7.2.2.2.1,x7.2.2.2.2.1++[Eng.V.c (Value.int IntKind.i64 r9)],())
 else
 k6 ((x7.1.1,(),(),(),x7.1.2.2.2.2.1,w64 (x7.1.2.2.2.2.2.1+1),()),(x7.2.1.1,(),(),x7.2.1.2.2.2),(x7.2.2.1.1,(),(),false,()),x7.2.2.2.1,x7.2.2.2.2.1++[Eng.V.c (Value.int IntKind.i64 r9)],()))
 else
 False)))
 else
 False)
 else
 (if x7.2.2.1.2.2.2.1 then
 (if (!(↑(List.length x7.2.2.2.1.1):Int) == x7.1.1) then
 K (x7.2.2.1.1,(),(),(↑(List.length x7.2.2.2.1.1):Int) == x7.1.1,()) [] true true x7.2.2.2.2.1 true false
 else
 K (x7.2.2.1.1,(),(),(↑(List.length x7.2.2.2.1.1):Int) == x7.1.1,()) x7.2.2.2.1.1 x7.2.2.2.1.2.1 x7.2.2.2.1.2.2 x7.2.2.2.2.1 true false)
 else
 K (x7.2.2.1.1,(),(),false,()) [] true true x7.2.2.2.2.1 true false))
def Lq0t_0p:Lp:=⟨917700,[.trim 917700,.trim 917700,.fatC 176 2 1 1280,.trim 917700],pT27,pH28,0⟩
def Yq0t (xq0u:Tq0u) (xq0r:Tq0r) (a0:ByteArray) (a1:ByteArray) (a2:Int) (K:Q25→(List Eng.V)→Bool→Bool→(List Eng.V)→Bool→Bool→Prop):Prop :=
 xq0u a1 (fun r3 r4 r5 =>
 lp (Lq0t_0 xq0r K) ((a2,(),(),(),(↑(List.length r3):Int),0,()),(ByteArray.mk #[],(),(),false,()),(a0,(),(),true,()),(r3,r4,r5),[],()))
def Xq0t:Tq0t:=Yq0t Xq0u Xq0r
def Jq0t (X:Tq0t):Inst:=mkI 85 pL29 .nil pL30 pH31 X
def Iq0t:Inst:=Jq0t Xq0t
theorem Eq0t (xq0u:Tq0u) (xq0r:Tq0r):EqF Tryz.prog 56 gives Tryz.f85 [Jq0u xq0u,Jq0r xq0r] [Lq0t_0p] (Jq0t (Yq0t xq0u xq0r)):=fun x y K=>by kernel_rfl
theorem Iq0t_ok:InstOk Tryz.prog G.1 Iq0t:=iok (gives:=gives) [Lq0t_0p] (okCons Iq0u_ok (okCons Iq0r_ok okNil)) 56 follows Tryz.func85 (by kernel_rfl) (fun x=>by kernel_rfl) (Eq0t Xq0u Xq0r)
abbrev Tq1e:Type:=Int→(Int→Bool→Prop)→Prop
def Yq1e (a0:Int) (K:Int→Bool→Prop):Prop :=
 (if decide (a0≥48) then
 (if decide (a0≤57) then
 K (wu32 (wi32 (a0 - 48))) true
 else
 (if decide (a0≥97) then
 (if decide (a0≤102) then
 (lt (wu32 (wu32 (wi32 (a0 - 97))+10)) fun v1 =>
 K v1 true)
 else
 (if decide (a0≥65) then
 (if decide (a0≤70) then
 (lt (wu32 (wu32 (wi32 (a0 - 65))+10)) fun v2 =>
 K v2 true)
 else
 K 0 false)
 else
 K 0 false))
 else
 (if decide (a0≥65) then
 (if decide (a0≤70) then
 (lt (wu32 (wu32 (wi32 (a0 - 65))+10)) fun v3 =>
 K v3 true)
 else
 K 0 false)
 else
 K 0 false)))
 else
 (if decide (a0≥97) then
 (if decide (a0≤102) then
 (lt (wu32 (wu32 (wi32 (a0 - 97))+10)) fun v4 =>
 K v4 true)
 else
 (if decide (a0≥65) then
 (if decide (a0≤70) then
 (lt (wu32 (wu32 (wi32 (a0 - 65))+10)) fun v5 =>
 K v5 true)
 else
 K 0 false)
 else
 K 0 false))
 else
 (if decide (a0≥65) then
 (if decide (a0≤70) then
 (lt (wu32 (wu32 (wi32 (a0 - 65))+10)) fun v6 =>
 K v6 true)
 else
 K 0 false)
 else
 K 0 false)))
def Xq1e:Tq1e:=Yq1e
def Jq1e (X:Tq1e):Inst:=mkI 89 pL32 .nil pL33 .nil X
def Iq1e:Inst:=Jq1e Xq1e
theorem Eq1e:EqF Tryz.prog 36 gives Tryz.f89 [] [] (Jq1e (Yq1e)):=fun x y K=>by kernel_rfl
theorem Iq1e_ok:InstOk Tryz.prog G.1 Iq1e:=iok (gives:=gives) [] okNil 36 follows Tryz.func89 (by kernel_rfl) (fun x=>by kernel_rfl) (Eq1e)
abbrev Tq1q:Type:=ByteArray→(Int→Bool→Prop)→Prop
def Lq1q_0 (xq1e:Tq1e) (K:Int→Bool→Prop):(Q34→Prop)→Q34→Prop:=fun k1 x2 =>
 (if x2.2.1.2 < ByteArray.size x2.2.1.1 then
 xq1e (↑(Prod.fst (Go.Utf8.decode x2.2.1.1 x2.2.1.2)):Int) (fun r3 r4 =>
 (if (!r4) then
 K 0 false
 else
 (lt (wu32 (wu32 (x2.1.1 * 16)+r3)) fun v5 =>
 k1 ((v5,x2.1.2.1,(),()),(x2.2.1.1,x2.2.1.2+Prod.snd (Go.Utf8.decode x2.2.1.1 x2.2.1.2)),()))))
 else
 K x2.1.1 true)
def Lq1q_0p:Lp:=⟨65548,[.trim 65548],pT35,pH36,0⟩
def Yq1q (xq1e:Tq1e) (a0:ByteArray) (K:Int→Bool→Prop):Prop :=
 (if (ByteArray.toList a0 == ByteArray.toList (ByteArray.mk #[])) then
 K 0 false
 else
 (if decide ((↑(ByteArray.size a0):Int) > 8) then
 K 0 false
 else
 lp (Lq1q_0 xq1e K) ((0,false,(),()),(a0,(0:Nat)),())))
def Xq1q:Tq1q:=Yq1q Xq1e
def Jq1q (X:Tq1q):Inst:=mkI 55 pL0 .nil pL33 .nil X
def Iq1q:Inst:=Jq1q Xq1q
theorem Eq1q (xq1e:Tq1e):EqF Tryz.prog 32 gives Tryz.f55 [Jq1e xq1e] [Lq1q_0p] (Jq1q (Yq1q xq1e)):=fun x y K=>by kernel_rfl
theorem Iq1q_ok:InstOk Tryz.prog G.1 Iq1q:=iok (gives:=gives) [Lq1q_0p] (okCons Iq1e_ok okNil) 32 follows Tryz.func55 (by kernel_rfl) (fun x=>by kernel_rfl) (Eq1q Xq1e)
abbrev Tq1v:Type:=ByteArray→(Q37→Bool→Prop)→Prop
def Lq1v_0 (xq1q:Tq1q) (K:Q37→Bool→Prop):(Q38→Prop)→Q38→Prop:=fun k4 x5 =>
 (if decide (x5.1.2.2.2.2.1 < x5.1.2.2.2.1) then
 (if 0≤x5.1.2.2.2.2.1∧x5.1.2.2.2.2.1 < (↑(List.length x5.2.2.1.1):Int) then
 (Eng.asStr (Eng.getC x5.2.2.1.1 (Int.toNat x5.1.2.2.2.2.1) (0:Nat)) False fun t6 =>
 xq1q t6 (fun r7 r8 =>
 (if 0≤x5.1.2.2.2.2.1∧x5.1.2.2.2.2.1 < 5 then
 (if (0:Nat) < List.length x5.2.1 then
 (if (0:Nat)+Int.toNat x5.1.2.2.2.2.1 * (1:Nat)+List.length [Eng.V.c (Value.int IntKind.u32 r7)]≤(5:Nat) then
 (lt (List.set x5.2.1 (0:Nat) (Eng.setE (List.getD x5.2.1 (0:Nat) Eng.V.bad) ((0:Nat)+Int.toNat x5.1.2.2.2.2.1 * (1:Nat)) [Eng.V.c (Value.int IntKind.u32 r7)])) fun v9 =>
 (if (!r8) then
 (if (0:Nat) < List.length v9 then
 (lt (List.set v9 (0:Nat) (Eng.setE (List.getD v9 (0:Nat) Eng.V.bad) (0:Nat) [Eng.V.c (Value.int IntKind.u32 0),Eng.V.c (Value.int IntKind.u32 0),Eng.V.c (Value.int IntKind.u32 0),Eng.V.c (Value.int IntKind.u32 0),Eng.V.c (Value.int IntKind.u32 0)])) fun v10 =>
 (Eng.asInt IntKind.u32 (Eng.getC v10 (0:Nat) (0:Nat)) False fun n11 =>
 (Eng.asInt IntKind.u32 (Eng.getC v10 (0:Nat) (1:Nat)) False fun n12 =>
 (Eng.asInt IntKind.u32 (Eng.getC v10 (0:Nat) (2:Nat)) False fun n13 =>
 (Eng.asInt IntKind.u32 (Eng.getC v10 (0:Nat) (3:Nat)) False fun n14 =>
 (Eng.asInt IntKind.u32 (Eng.getC v10 (0:Nat) (4:Nat)) False fun n15 =>
 K (n11,n12,n13,n14,n15,()) false))))))
 else
 False)
 else
 k4 (((),r8,(),x5.1.2.2.2.1,w64 (x5.1.2.2.2.2.1+1),()),v9,x5.2.2)))
 else
 False)
 else
 False)
 else
 False)))
 else
 False)
 else
 (Eng.asInt IntKind.u32 (Eng.getC x5.2.1 (0:Nat) (0:Nat)) False fun n16 =>
 (Eng.asInt IntKind.u32 (Eng.getC x5.2.1 (0:Nat) (1:Nat)) False fun n17 =>
 (Eng.asInt IntKind.u32 (Eng.getC x5.2.1 (0:Nat) (2:Nat)) False fun n18 =>
 (Eng.asInt IntKind.u32 (Eng.getC x5.2.1 (0:Nat) (3:Nat)) False fun n19 =>
 (Eng.asInt IntKind.u32 (Eng.getC x5.2.1 (0:Nat) (4:Nat)) False fun n20 =>
 (if (0:Nat) < List.length x5.2.1 then
 (lt (List.set x5.2.1 (0:Nat) (Eng.setE (List.getD x5.2.1 (0:Nat) Eng.V.bad) (0:Nat) [Eng.V.c (Value.int IntKind.u32 n16),Eng.V.c (Value.int IntKind.u32 n17),Eng.V.c (Value.int IntKind.u32 n18),Eng.V.c (Value.int IntKind.u32 n19),Eng.V.c (Value.int IntKind.u32 n20)])) fun v21 =>
 (Eng.asInt IntKind.u32 (Eng.getC v21 (0:Nat) (0:Nat)) False fun n22 =>
 (Eng.asInt IntKind.u32 (Eng.getC v21 (0:Nat) (1:Nat)) False fun n23 =>
 (Eng.asInt IntKind.u32 (Eng.getC v21 (0:Nat) (2:Nat)) False fun n24 =>
 (Eng.asInt IntKind.u32 (Eng.getC v21 (0:Nat) (3:Nat)) False fun n25 =>
 (Eng.asInt IntKind.u32 (Eng.getC v21 (0:Nat) (4:Nat)) False fun n26 =>
 K (n22,n23,n24,n25,n26,()) true))))))
 else
 False)))))))
def Lq1v_0p:Lp:=⟨57356,[.trim 57356],pT39,pH40,0⟩
def Yq1v (xq0u:Tq0u) (xq1q:Tq1q) (a0:ByteArray) (K:Q37→Bool→Prop):Prop :=
 xq0u a0 (fun r1 r2 r3 =>
 (if ((↑(List.length r1):Int) != 5) then
 K (0,0,0,0,0,()) false
 else
 lp (Lq1v_0 xq1q K) (((),false,(),(↑(List.length r1):Int),0,()),[Eng.V.agg [Eng.V.c (Value.int IntKind.u32 0),Eng.V.c (Value.int IntKind.u32 0),Eng.V.c (Value.int IntKind.u32 0),Eng.V.c (Value.int IntKind.u32 0),Eng.V.c (Value.int IntKind.u32 0)]],(r1,r2,r3),())))
def Xq1v:Tq1v:=Yq1v Xq0u Xq1q
def Jq1v (X:Tq1v):Inst:=mkI 23 pL0 .nil pL41 .nil X
def Iq1v:Inst:=Jq1v Xq1v
theorem Eq1v (xq0u:Tq0u) (xq1q:Tq1q):EqF Tryz.prog 32 gives Tryz.f23 [Jq0u xq0u,Jq1q xq1q] [Lq1v_0p] (Jq1v (Yq1v xq0u xq1q)):=fun x y K=>by kernel_rfl
theorem Iq1v_ok:InstOk Tryz.prog G.1 Iq1v:=iok (gives:=gives) [Lq1v_0p] (okCons Iq0u_ok (okCons Iq1q_ok okNil)) 32 follows Tryz.func23 (by kernel_rfl) (fun x=>by kernel_rfl) (Eq1v Xq0u Xq1q)
abbrev Tq02:Type:=ByteArray→ByteArray→(Bool→Prop)→Prop
def Yq02 (a0:ByteArray) (a1:ByteArray) (K:Bool→Prop):Prop :=
 (if decide ((↑(ByteArray.size a0):Int)≥(↑(ByteArray.size a1):Int)) then
 (if 0≤(↑(ByteArray.size a1):Int)∧(↑(ByteArray.size a1):Int)≤(↑(ByteArray.size a0):Int) then
 K (ByteArray.toList (ByteArray.extract a0 (0:Nat) (Int.toNat (↑(ByteArray.size a1):Int))) == ByteArray.toList a1)
 else
 False)
 else
 K false)
def Xq02:Tq02:=Yq02
def Jq02 (X:Tq02):Inst:=mkI 108 pL1 .nil pL9 .nil X
def Iq02:Inst:=Jq02 Xq02
theorem Eq02:EqF Tryz.prog 18 gives Tryz.f108 [] [] (Jq02 (Yq02)):=fun x y K=>by kernel_rfl
theorem Iq02_ok:InstOk Tryz.prog G.1 Iq02:=iok (gives:=gives) [] okNil 18 follows Tryz.func108 (by kernel_rfl) (fun x=>by kernel_rfl) (Eq02)
abbrev Tq0b:Type:=ByteArray→ByteArray→(Bool→Prop)→Prop
def Yq0b (xq02:Tq02) (a0:ByteArray) (a1:ByteArray) (K:Bool→Prop):Prop :=
 xq02 a0 a1 (fun r2 =>
 K r2)
def Xq0b:Tq0b:=Yq0b Xq02
def Jq0b (X:Tq0b):Inst:=mkI 74 pL1 .nil pL9 .nil X
def Iq0b:Inst:=Jq0b Xq0b
theorem Eq0b (xq02:Tq02):EqF Tryz.prog 8 gives Tryz.f74 [Jq02 xq02] [] (Jq0b (Yq0b xq02)):=fun x y K=>by kernel_rfl
theorem Iq0b_ok:InstOk Tryz.prog G.1 Iq0b:=iok (gives:=gives) [] (okCons Iq02_ok okNil) 8 follows Tryz.func74 (by kernel_rfl) (fun x=>by kernel_rfl) (Eq0b Xq02)
abbrev Tq07:Type:=ByteArray→ByteArray→(ByteArray→ByteArray→Bool→Prop)→Prop
def Yq07 (xq05:Tq05) (a0:ByteArray) (a1:ByteArray) (K:ByteArray→ByteArray→Bool→Prop):Prop :=
 xq05 a0 a1 (fun r2 =>
 (if decide (r2≥0) then
 (if 0≤r2∧r2≤(↑(ByteArray.size a0):Int) then
 (if (0 :Int)≤0∧0≤r2 then
 (if 0≤(↑(ByteArray.size a0):Int)∧(↑(ByteArray.size a0):Int)≤(↑(ByteArray.size a0):Int) then
 (if 0≤w64 (r2+(↑(ByteArray.size a1):Int))∧w64 (r2+(↑(ByteArray.size a1):Int))≤(↑(ByteArray.size a0):Int) then
 (lt (ByteArray.extract a0 (Int.toNat (w64 (r2+(↑(ByteArray.size a1):Int)))) (Int.toNat (↑(ByteArray.size a0):Int))) fun v3 =>
 K (ByteArray.extract a0 (0:Nat) (Int.toNat r2)) v3 true)
 else
 False)
 else
 False)
 else
 False)
 else
 False)
 else
 K a0 (ByteArray.mk #[]) false))
def Xq07:Tq07:=Yq07 Xq05
def Jq07 (X:Tq07):Inst:=mkI 81 pL1 .nil pL42 .nil X
def Iq07:Inst:=Jq07 Xq07
theorem Eq07 (xq05:Tq05):EqF Tryz.prog 23 gives Tryz.f81 [Jq05 xq05] [] (Jq07 (Yq07 xq05)):=fun x y K=>by kernel_rfl
theorem Iq07_ok:InstOk Tryz.prog G.1 Iq07:=iok (gives:=gives) [] (okCons Iq05_ok okNil) 23 follows Tryz.func81 (by kernel_rfl) (fun x=>by kernel_rfl) (Eq07 Xq05)
abbrev Tq0x:Type:=ByteArray→ByteArray→(ByteArray→ByteArray→Bool→Prop)→Prop
def Yq0x (xq07:Tq07) (a0:ByteArray) (a1:ByteArray) (K:ByteArray→ByteArray→Bool→Prop):Prop :=
 xq07 a0 a1 (fun r2 r3 r4 =>
 K r2 r3 r4)
def Xq0x:Tq0x:=Yq0x Xq07
def Jq0x (X:Tq0x):Inst:=mkI 48 pL1 .nil pL42 .nil X
def Iq0x:Inst:=Jq0x Xq0x
theorem Eq0x (xq07:Tq07):EqF Tryz.prog 13 gives Tryz.f48 [Jq07 xq07] [] (Jq0x (Yq0x xq07)):=fun x y K=>by kernel_rfl
theorem Iq0x_ok:InstOk Tryz.prog G.1 Iq0x:=iok (gives:=gives) [] (okCons Iq07_ok okNil) 13 follows Tryz.func48 (by kernel_rfl) (fun x=>by kernel_rfl) (Eq0x Xq07)
abbrev Tq1g:Type:=ByteArray→(Q25→(List Eng.V)→Bool→Bool→(List Eng.V)→Bool→Bool→Prop)→Prop
def Yq1g (xq0u:Tq0u) (xq0t:Tq0t) (xq1v:Tq1v) (xq0b:Tq0b) (xq0x:Tq0x) (a0:ByteArray) (K:Q25→(List Eng.V)→Bool→Bool→(List Eng.V)→Bool→Bool→Prop):Prop :=
 xq0u a0 (fun r1 r2 r3 =>
 (if ((↑(List.length r1):Int) == 0) then
 K (ByteArray.mk #[(35:UInt8)],(),(),true,()) [] true true [] true true
 else
 (if (0≤if (↑(ByteArray.size a0):Int) < 2 then (↑(ByteArray.size a0):Int) else 2)∧(if (↑(ByteArray.size a0):Int) < 2 then (↑(ByteArray.size a0):Int) else 2)≤(↑(ByteArray.size a0):Int) then
 (if (0 :Int)≤0∧0≤if (↑(ByteArray.size a0):Int) < 2 then (↑(ByteArray.size a0):Int) else 2 then
 (if (ByteArray.toList (ByteArray.extract a0 (0:Nat) (Int.toNat (if (↑(ByteArray.size a0):Int) < 2 then (↑(ByteArray.size a0):Int) else 2))) == ByteArray.toList (ByteArray.mk #[(35:UInt8),(36:UInt8)])) then
 (if (ByteArray.toList (ByteArray.extract a0 (0:Nat) (Int.toNat (if (↑(ByteArray.size a0):Int) < 2 then (↑(ByteArray.size a0):Int) else 2))) == ByteArray.toList (ByteArray.mk #[(35:UInt8),(36:UInt8)])) then
 (if 0≤(↑(ByteArray.size a0):Int)∧(↑(ByteArray.size a0):Int)≤(↑(ByteArray.size a0):Int) then
 (if (0 :Int)≤2∧2≤(↑(ByteArray.size a0):Int) then
 xq0t (ByteArray.extract a0 (0:Nat) (Int.toNat (if (↑(ByteArray.size a0):Int) < 2 then (↑(ByteArray.size a0):Int) else 2))) (ByteArray.extract a0 (2:Nat) (Int.toNat (↑(ByteArray.size a0):Int))) 1 (fun r4 r5 r6 r7 r8 r9 r10 =>
 K (r4.1,(),(),r4.2.2.2) r5 r6 r7 r8 r9 r10)
 else
 False)
 else
 False)
 else
 (if (ByteArray.toList (ByteArray.extract a0 (0:Nat) (Int.toNat (if (↑(ByteArray.size a0):Int) < 2 then (↑(ByteArray.size a0):Int) else 2))) == ByteArray.toList (ByteArray.mk #[(35:UInt8),(104:UInt8)])) then
 (if 0≤(↑(ByteArray.size a0):Int)∧(↑(ByteArray.size a0):Int)≤(↑(ByteArray.size a0):Int) then
 (if (0 :Int)≤2∧2≤(↑(ByteArray.size a0):Int) then
 xq1v (ByteArray.extract a0 (2:Nat) (Int.toNat (↑(ByteArray.size a0):Int))) (fun r11 r12 =>
 K (ByteArray.extract a0 (0:Nat) (Int.toNat (if (↑(ByteArray.size a0):Int) < 2 then (↑(ByteArray.size a0):Int) else 2)),(),(),r12,()) [] true true [] true true)
 else
 False)
 else
 False)
 else
 (if (0 :Int)≤0∧0 < (↑(List.length r1):Int) then
 (Eng.asStr (Eng.getC r1 (0:Nat) (0:Nat)) False fun t13 =>
 xq0b t13 (ByteArray.mk #[(35:UInt8)]) (fun r14 =>
 (if r14 then
 K (ByteArray.mk #[(35:UInt8)],(),(),true,()) [] true true [] true true
 else
 xq0x a0 (ByteArray.mk #[(35:UInt8)]) (fun r15 r16 r17 =>
 xq0t (ByteArray.mk #[]) r15 2 (fun r18 r19 r20 r21 r22 r23 r24 =>
 K (r18.1,(),(),r18.2.2.2) r19 r20 r21 r22 r23 r24)))))
 else
 False)))
 else
 (if (ByteArray.toList (ByteArray.extract a0 (0:Nat) (Int.toNat (if (↑(ByteArray.size a0):Int) < 2 then (↑(ByteArray.size a0):Int) else 2))) == ByteArray.toList (ByteArray.mk #[(35:UInt8),(64:UInt8)])) then
 (if 0≤(↑(ByteArray.size a0):Int)∧(↑(ByteArray.size a0):Int)≤(↑(ByteArray.size a0):Int) then
 (if (0 :Int)≤2∧2≤(↑(ByteArray.size a0):Int) then
 xq0t (ByteArray.extract a0 (0:Nat) (Int.toNat (if (↑(ByteArray.size a0):Int) < 2 then (↑(ByteArray.size a0):Int) else 2))) (ByteArray.extract a0 (2:Nat) (Int.toNat (↑(ByteArray.size a0):Int))) 1 (fun r25 r26 r27 r28 r29 r30 r31 =>
 K (r25.1,(),(),r25.2.2.2) r26 r27 r28 r29 r30 r31)
 else
 False)
 else
 False)
 else
 (if (ByteArray.toList (ByteArray.extract a0 (0:Nat) (Int.toNat (if (↑(ByteArray.size a0):Int) < 2 then (↑(ByteArray.size a0):Int) else 2))) == ByteArray.toList (ByteArray.mk #[(35:UInt8),(104:UInt8)])) then
 (if 0≤(↑(ByteArray.size a0):Int)∧(↑(ByteArray.size a0):Int)≤(↑(ByteArray.size a0):Int) then
 (if (0 :Int)≤2∧2≤(↑(ByteArray.size a0):Int) then
 xq1v (ByteArray.extract a0 (2:Nat) (Int.toNat (↑(ByteArray.size a0):Int))) (fun r32 r33 =>
 K (ByteArray.extract a0 (0:Nat) (Int.toNat (if (↑(ByteArray.size a0):Int) < 2 then (↑(ByteArray.size a0):Int) else 2)),(),(),r33,()) [] true true [] true true)
 else
 False)
 else
 False)
 else
 (if (0 :Int)≤0∧0 < (↑(List.length r1):Int) then
 (Eng.asStr (Eng.getC r1 (0:Nat) (0:Nat)) False fun t34 =>
 xq0b t34 (ByteArray.mk #[(35:UInt8)]) (fun r35 =>
 (if r35 then
 K (ByteArray.mk #[(35:UInt8)],(),(),true,()) [] true true [] true true
 else
 xq0x a0 (ByteArray.mk #[(35:UInt8)]) (fun r36 r37 r38 =>
 xq0t (ByteArray.mk #[]) r36 2 (fun r39 r40 r41 r42 r43 r44 r45 =>
 K (r39.1,(),(),r39.2.2.2) r40 r41 r42 r43 r44 r45)))))
 else
 False))))
 else
 False)
 else
 False)))
def Xq1g:Tq1g:=Yq1g Xq0u Xq0t Xq1v Xq0b Xq0x
def Jq1g (X:Tq1g):Inst:=mkI 51 pL0 .nil pL30 pH31 X
def Iq1g:Inst:=Jq1g Xq1g
theorem Eq1g (xq0u:Tq0u) (xq0t:Tq0t) (xq1v:Tq1v) (xq0b:Tq0b) (xq0x:Tq0x):EqF Tryz.prog 53 gives Tryz.f51 [Jq0u xq0u,Jq0t xq0t,Jq1v xq1v,Jq0b xq0b,Jq0x xq0x] [] (Jq1g (Yq1g xq0u xq0t xq1v xq0b xq0x)):=fun x y K=>by kernel_rfl
theorem Iq1g_ok:InstOk Tryz.prog G.1 Iq1g:=iok (gives:=gives) [] (okCons Iq0u_ok (okCons Iq0t_ok (okCons Iq1v_ok (okCons Iq0b_ok (okCons Iq0x_ok okNil))))) 53 follows Tryz.func51 (by kernel_rfl) (fun x=>by kernel_rfl) (Eq1g Xq0u Xq0t Xq1v Xq0b Xq0x)
abbrev Tq18:Type:=ByteArray→((List Eng.V)→Bool→Bool→Prop)→Prop
def Lq18_0 (xq1g:Tq1g) (K:(List Eng.V)→Bool→Bool→Prop):(Q43→Prop)→Q43→Prop:=fun k4 x5 =>
 (if decide (x5.1.2.2.2.1 < x5.1.2.2.1) then
 (if 0≤x5.1.2.2.2.1∧x5.1.2.2.2.1 < (↑(List.length x5.2.1.1):Int) then
 (Eng.asStr (Eng.getC x5.2.1.1 (Int.toNat x5.1.2.2.2.1) (0:Nat)) False fun t6 =>
 xq1g t6 (fun r7 r8 r9 r10 r11 r12 r13 =>
 (if Eng.roomOk (List.length x5.2.2.1+List.length [Eng.V.agg [Eng.V.c (Value.string r7.1),Eng.V.sl (1:Nat) false r8,Eng.V.sl (1:Nat) false r11,Eng.V.c (Value.bool r7.2.2.2.1)]]) (72:Nat) then
 (lt (x5.2.2.1++[Eng.V.agg [Eng.V.c (Value.string r7.1),Eng.V.sl (1:Nat) false r8,Eng.V.sl (1:Nat) false r11,Eng.V.c (Value.bool r7.2.2.2.1)]]) fun v14 =>
 k4 (((),(),x5.1.2.2.1,w64 (x5.1.2.2.2.1+1),()),x5.2.1,v14,()))
 else
 False)))
 else
 False)
 else
 K x5.2.2.1 true false)
def Lq18_0p:Lp:=⟨452,[.trim 452,.fat 2 4 368,.trim 452],pT44,pH45,0⟩
def Yq18 (xq0y:Tq0y) (xq1g:Tq1g) (a0:ByteArray) (K:(List Eng.V)→Bool→Bool→Prop):Prop :=
 xq0y a0 (fun r1 r2 r3 =>
 lp (Lq18_0 xq1g K) (((),(),(↑(List.length r1):Int),0,()),(r1,r2,r3),[],()))
def Xq18:Tq18:=Yq18 Xq0y Xq1g
def Jq18 (X:Tq18):Inst:=mkI 19 pL0 .nil pL7 pH46 X
def Iq18:Inst:=Jq18 Xq18
theorem Eq18 (xq0y:Tq0y) (xq1g:Tq1g):EqF Tryz.prog 19 gives Tryz.f19 [Jq0y xq0y,Jq1g xq1g] [Lq18_0p] (Jq18 (Yq18 xq0y xq1g)):=fun x y K=>by kernel_rfl
theorem Iq18_ok:InstOk Tryz.prog G.1 Iq18:=iok (gives:=gives) [Lq18_0p] (okCons Iq0y_ok (okCons Iq1g_ok okNil)) 19 follows Tryz.func19 (by kernel_rfl) (fun x=>by kernel_rfl) (Eq18 Xq0y Xq1g)
abbrev Tq23:Type:=Int→Int→(Int→Bool→Prop)→Prop
def Yq23 (a0:Int) (a1:Int) (K:Int→Bool→Prop):Prop :=
 (lt (!decide (w64 (a0 - a1) < a0) == decide (a1 > 0)) fun v2 =>
 (if v2 then
 (if (a1 != 0) then
 K 0 false
 else
 K (w64 (a0 - a1)) true)
 else
 K (w64 (a0 - a1)) true))
def Xq23:Tq23:=Yq23
def Jq23 (X:Tq23):Inst:=mkI 53 pL20 .nil pL21 .nil X
def Iq23:Inst:=Jq23 Xq23
theorem Eq23:EqF Tryz.prog 21 gives Tryz.f53 [] [] (Jq23 (Yq23)):=fun x y K=>by kernel_rfl
theorem Iq23_ok:InstOk Tryz.prog G.1 Iq23:=iok (gives:=gives) [] okNil 21 follows Tryz.func53 (by kernel_rfl) (fun x=>by kernel_rfl) (Eq23)
abbrev Tq1j:Type:=Int→(Int→Bool→Prop)→Prop
def Yq1j (xq23:Tq23) (a0:Int) (K:Int→Bool→Prop):Prop :=
 (if decide (a0 < 0) then
 K 0 false
 else
 xq23 a0 2208988800 (fun r1 r2 =>
 K r1 r2))
def Xq1j:Tq1j:=Yq1j Xq23
def Jq1j (X:Tq1j):Inst:=mkI 21 pL2 .nil pL21 .nil X
def Iq1j:Inst:=Jq1j Xq1j
theorem Eq1j (xq23:Tq23):EqF Tryz.prog 10 gives Tryz.f21 [Jq23 xq23] [] (Jq1j (Yq1j xq23)):=fun x y K=>by kernel_rfl
theorem Iq1j_ok:InstOk Tryz.prog G.1 Iq1j:=iok (gives:=gives) [] (okCons Iq23_ok okNil) 10 follows Tryz.func21 (by kernel_rfl) (fun x=>by kernel_rfl) (Eq1j Xq23)
abbrev Tq22:Type:=Int→Int→(Int→Int→Bool→Prop)→Prop
def Yq22 (a0:Int) (a1:Int) (K:Int→Int→Bool→Prop):Prop :=
 (if decide (a1 < 1) then
 K 0 0 false
 else
 (if a1=0 then
 False
 else
 (if a1=0 then
 False
 else
 (if decide (Int.tmod a0 a1 < 0) then
 (lt (w64 (w64 (Int.tdiv a0 a1) - 1)) fun v2 =>
 K v2 (w64 (Int.tmod a0 a1+a1)) true)
 else
 K (w64 (Int.tdiv a0 a1)) (Int.tmod a0 a1) true))))
def Xq22:Tq22:=Yq22
def Jq22 (X:Tq22):Inst:=mkI 86 pL20 .nil pL47 .nil X
def Iq22:Inst:=Jq22 Xq22
theorem Eq22:EqF Tryz.prog 24 gives Tryz.f86 [] [] (Jq22 (Yq22)):=fun x y K=>by kernel_rfl
theorem Iq22_ok:InstOk Tryz.prog G.1 Iq22:=iok (gives:=gives) [] okNil 24 follows Tryz.func86 (by kernel_rfl) (fun x=>by kernel_rfl) (Eq22)
abbrev Tq00:Type:=(List Eng.V)→((List Eng.V)→Bool→Bool→Prop)→Prop
def Yq00 (a0:(List Eng.V)) (K:(List Eng.V)→Bool→Bool→Prop):Prop :=
 (if List.length a0=(0:Nat) then
 (
 K [] true true
 ∧
 (if Eng.roomOk ((0:Nat)+List.length a0) (24:Nat) then
 K ([]++a0) true false
 else
 False))
 else
 (if Eng.roomOk ((0:Nat)+List.length a0) (24:Nat) then
 K ([]++a0) true false
 else
 False))
def Xq00:Tq00:=Yq00
def Jq00 (X:Tq00):Inst:=mkI 114 pL48 .nil pL7 pH49 X
def Iq00:Inst:=Jq00 Xq00
theorem Eq00:EqF Tryz.prog 8 gives Tryz.f114 [] [] (Jq00 (Yq00)):=fun x y K=>by kernel_rfl
theorem Iq00_ok:InstOk Tryz.prog G.1 Iq00:=iok (gives:=gives) [] okNil 8 follows Tryz.func114 (by kernel_rfl) (fun x=>by kernel_rfl) (Eq00)
abbrev Tq1r:Type:=Int→(Int→Int→Int→Bool→Prop)→Prop
def Yq1r (xq22:Tq22) (a0:Int) (K:Int→Int→Int→Bool→Prop):Prop :=
 (if decide (a0 < (-719162)) then
 K 0 0 0 false
 else
 (if decide (a0 > 2932896) then
 K 0 0 0 false
 else
 xq22 (w64 (a0+719468)) 146097 (fun r1 r2 r3 =>
 (lt (w64 (r2 - w64 (Int.tdiv r2 1460))) fun v4 =>
 (lt (w64 (v4+w64 (Int.tdiv r2 36524))) fun v5 =>
 (lt (w64 (v5 - w64 (Int.tdiv r2 146096))) fun v6 =>
 (lt (w64 (365 * w64 (Int.tdiv v6 365))) fun v7 =>
 (lt (w64 (Int.tdiv (w64 (Int.tdiv v6 365)) 4)) fun v8 =>
 (lt (w64 (Int.tdiv (w64 (Int.tdiv v6 365)) 100)) fun v9 =>
 (lt (w64 (w64 (v7+v8) - v9)) fun v10 =>
 (lt (w64 (5 * w64 (r2 - v10))) fun v11 =>
 (lt (w64 (Int.tdiv (w64 (v11+2)) 153)) fun v12 =>
 (lt (w64 (w64 (153 * v12)+2)) fun v13 =>
 (lt (w64 (w64 (r2 - v10) - w64 (Int.tdiv v13 5))) fun v14 =>
 (if decide (w64 (v12+3) > 12) then
 (lt (w64 (w64 (v12+3) - 12)) fun v15 =>
 (lt (w64 (w64 (Int.tdiv v6 365)+1)) fun v16 =>
 (lt (w64 (w64 (400 * r1)+v16)) fun v17 =>
 K v17 v15 (w64 (v14+1)) true)))
 else
 (lt (w64 (w64 (400 * r1)+w64 (Int.tdiv v6 365))) fun v18 =>
 K v18 (w64 (v12+3)) (w64 (v14+1)) true))))))))))))))))
def Xq1r:Tq1r:=Yq1r Xq22
def Jq1r (X:Tq1r):Inst:=mkI 78 pL2 .nil pL50 .nil X
def Iq1r:Inst:=Jq1r Xq1r
theorem Eq1r (xq22:Tq22):EqF Tryz.prog 69 gives Tryz.f78 [Jq22 xq22] [] (Jq1r (Yq1r xq22)):=fun x y K=>by kernel_rfl
theorem Iq1r_ok:InstOk Tryz.prog G.1 Iq1r:=iok (gives:=gives) [] (okCons Iq22_ok okNil) 69 follows Tryz.func78 (by kernel_rfl) (fun x=>by kernel_rfl) (Eq1r Xq22)
abbrev Tq1s:Type:=Int→(Bool→Prop)→Prop
def Yq1s (a0:Int) (K:Bool→Prop):Prop :=
 (if (Int.tmod a0 (4 :Int) == 0) then
 (if (Int.tmod a0 (100 :Int) != 0) then
 K true
 else
 K (Int.tmod a0 (400 :Int) == 0))
 else
 K false)
def Xq1s:Tq1s:=Yq1s
def Jq1s (X:Tq1s):Inst:=mkI 137 pL2 .nil pL9 .nil X
def Iq1s:Inst:=Jq1s Xq1s
theorem Eq1s:EqF Tryz.prog 16 gives Tryz.f137 [] [] (Jq1s (Yq1s)):=fun x y K=>by kernel_rfl
theorem Iq1s_ok:InstOk Tryz.prog G.1 Iq1s:=iok (gives:=gives) [] okNil 16 follows Tryz.func137 (by kernel_rfl) (fun x=>by kernel_rfl) (Eq1s)
abbrev Tq1t:Type:=Int→Int→(Int→Bool→Prop)→Prop
def Yq1t (xq1s:Tq1s) (a0:Int) (a1:Int) (K:Int→Bool→Prop):Prop :=
 (if decide (a0 < 1) then
 K 0 false
 else
 (if decide (a0 > 9999) then
 K 0 false
 else
 (if decide (a1 < 1) then
 K 0 false
 else
 (if decide (a1 > 12) then
 K 0 false
 else
 (if 0≤w64 (a1 - 1)∧w64 (a1 - 1) < 12 then
 (Eng.asInt IntKind.i64 ([Eng.V.c (Value.int IntKind.i64 31),Eng.V.c (Value.int IntKind.i64 28),Eng.V.c (Value.int IntKind.i64 31),Eng.V.c (Value.int IntKind.i64 30),Eng.V.c (Value.int IntKind.i64 31),Eng.V.c (Value.int IntKind.i64 30),Eng.V.c (Value.int IntKind.i64 31),Eng.V.c (Value.int IntKind.i64 31),Eng.V.c (Value.int IntKind.i64 30),Eng.V.c (Value.int IntKind.i64 31),Eng.V.c (Value.int IntKind.i64 30),Eng.V.c (Value.int IntKind.i64 31)][Int.toNat (w64 (a1 - 1)) * (1:Nat)]?) False fun n2 =>
 (if (a1 == 2) then
 xq1s a0 (fun r3 =>
 (if r3 then
 K (w64 (n2+1)) true
 else
 K n2 true))
 else
 K n2 true))
 else
 False)))))
def Xq1t:Tq1t:=Yq1t Xq1s
def Jq1t (X:Tq1t):Inst:=mkI 113 pL20 .nil pL21 .nil X
def Iq1t:Inst:=Jq1t Xq1t
theorem Eq1t (xq1s:Tq1s):EqF Tryz.prog 34 gives Tryz.f113 [Jq1s xq1s] [] (Jq1t (Yq1t xq1s)):=fun x y K=>by kernel_rfl
theorem Iq1t_ok:InstOk Tryz.prog G.1 Iq1t:=iok (gives:=gives) [] (okCons Iq1s_ok okNil) 34 follows Tryz.func113 (by kernel_rfl) (fun x=>by kernel_rfl) (Eq1t Xq1s)
abbrev Tq1x:Type:=Int→(Bool→Prop)→Prop
def Yq1x (xq1r:Tq1r) (xq1t:Tq1t) (a0:Int) (K:Bool→Prop):Prop :=
 xq1r a0 (fun r1 r2 r3 r4 =>
 xq1t r1 r2 (fun r5 r6 =>
 (if r4 then
 K (r3 == r5)
 else
 K false)))
def Xq1x:Tq1x:=Yq1x Xq1r Xq1t
def Jq1x (X:Tq1x):Inst:=mkI 115 pL2 .nil pL9 .nil X
def Iq1x:Inst:=Jq1x Xq1x
theorem Eq1x (xq1r:Tq1r) (xq1t:Tq1t):EqF Tryz.prog 28 gives Tryz.f115 [Jq1r xq1r,Jq1t xq1t] [] (Jq1x (Yq1x xq1r xq1t)):=fun x y K=>by kernel_rfl
theorem Iq1x_ok:InstOk Tryz.prog G.1 Iq1x:=iok (gives:=gives) [] (okCons Iq1r_ok (okCons Iq1t_ok okNil)) 28 follows Tryz.func115 (by kernel_rfl) (fun x=>by kernel_rfl) (Eq1x Xq1r Xq1t)
abbrev Tq13:Type:=Int→Q51→Int→(Int→Prop)→Prop
def Yq13 (xq1x:Tq1x) (a0:Int) (a1:Q51) (a2:Int) (K:Int→Prop):Prop :=
 (if decide (a0≥200) then
 K 8
 else
 (if decide (a1.1 < 730) then
 (if decide (a1.1 < 730) then
 K 9
 else
 xq1x a1.1 (fun r3 =>
 (if (!r3) then
 K 5
 else
 (if (a1.2.1 != 1) then
 (if (a1.2.1 != (-1)) then
 K 6
 else
 (if decide (a1.1≤a2) then
 K 4
 else
 K 0))
 else
 (if decide (a1.1≤a2) then
 K 4
 else
 K 0)))))
 else
 (if decide (a1.1≥2932896) then
 K 9
 else
 xq1x a1.1 (fun r4 =>
 (if (!r4) then
 K 5
 else
 (if (a1.2.1 != 1) then
 (if (a1.2.1 != (-1)) then
 K 6
 else
 (if decide (a1.1≤a2) then
 K 4
 else
 K 0))
 else
 (if decide (a1.1≤a2) then
 K 4
 else
 K 0)))))))
def Xq13:Tq13:=Yq13 Xq1x
def Jq13 (X:Tq13):Inst:=mkI 88 pL52 .nil pL2 .nil X
def Iq13:Inst:=Jq13 Xq13
theorem Eq13 (xq1x:Tq1x):EqF Tryz.prog 36 gives Tryz.f88 [Jq1x xq1x] [] (Jq13 (Yq13 xq1x)):=fun x y K=>by kernel_rfl
theorem Iq13_ok:InstOk Tryz.prog G.1 Iq13:=iok (gives:=gives) [] (okCons Iq1x_ok okNil) 36 follows Tryz.func88 (by kernel_rfl) (fun x=>by kernel_rfl) (Eq13 Xq1x)
abbrev Tq14:Type:=Q53→(Int→Int→Prop)→Prop
def Lq14_0 (xq13:Tq13) (K:Int→Int→Prop):(Q54→Prop)→Q54→Prop:=fun k1 x2 =>
 (if decide (x2.1.2.2.2.2.2.2.1 < x2.1.2.2.2.2.2.1) then
 (if 0≤x2.1.2.2.2.2.2.2.1∧x2.1.2.2.2.2.2.2.1 < (↑(List.length x2.1.2.2.2.2.1):Int) then
 (Eng.asInt IntKind.i64 (Eng.getC x2.1.2.2.2.2.1 (Int.toNat x2.1.2.2.2.2.2.2.1) (0:Nat)) False fun n3 =>
 (Eng.asInt IntKind.i64 (Eng.getC x2.1.2.2.2.2.1 (Int.toNat x2.1.2.2.2.2.2.2.1) (1:Nat)) False fun n4 =>
 (Eng.asBool (Eng.getC x2.1.2.2.2.2.1 (Int.toNat x2.1.2.2.2.2.2.2.1) (2:Nat)) False fun b5 =>
 xq13 x2.1.2.2.2.2.2.2.1 (n3,n4,b5,()) x2.1.2.2.2.1 (fun r6 =>
 (if (r6 != 0) then
 K x2.1.2.2.2.2.2.2.1 r6
 else
 k1 (((),x2.1.2.1,x2.1.2.2.1,n3,x2.1.2.2.2.2.1,x2.1.2.2.2.2.2.1,w64 (x2.1.2.2.2.2.2.2.1+1),()),x2.2))))))
 else
 False)
 else
 (if x2.2.1.2.1 then
 (lt (w64 (w64 (x2.1.2.2.2.1+1) * 86400)) fun v7 =>
 (if decide (x2.2.1.2.2.1 < if 63072000 > v7 then 63072000 else v7) then
 K (↑(List.length x2.2.1.1):Int) 9
 else
 (if decide (x2.2.1.2.2.1 > 253402300799) then
 K (↑(List.length x2.2.1.1):Int) 9
 else
 K (↑(List.length x2.2.1.1):Int) 0)))
 else
 (if decide (x2.2.1.2.2.1 < 0) then
 K (↑(List.length x2.2.1.1):Int) 9
 else
 (if decide (x2.2.1.2.2.1 > 0) then
 K (↑(List.length x2.2.1.1):Int) 9
 else
 K (↑(List.length x2.2.1.1):Int) 0))))
def Lq14_0p:Lp:=⟨14366,[.trim 14366],pT55,pH56,0⟩
def Yq14 (xq13:Tq13) (a0:Q53) (K:Int→Int→Prop):Prop :=
 lp (Lq14_0 xq13 K) (((),0,0,729,a0.1,(↑(List.length a0.1):Int),0,()),a0,())
def Xq14:Tq14:=Yq14 Xq13
def Jq14 (X:Tq14):Inst:=mkI 54 pL57 .nil pL20 .nil X
def Iq14:Inst:=Jq14 Xq14
theorem Eq14 (xq13:Tq13):EqF Tryz.prog 51 gives Tryz.f54 [Jq13 xq13] [Lq14_0p] (Jq14 (Yq14 xq13)):=fun x y K=>by kernel_rfl
theorem Iq14_ok:InstOk Tryz.prog G.1 Iq14:=iok (gives:=gives) [Lq14_0p] (okCons Iq13_ok okNil) 51 follows Tryz.func54 (by kernel_rfl) (fun x=>by kernel_rfl) (Eq14 Xq13)
abbrev Tq1p:Type:=Q53→Q51→(Q58→Int→(List Eng.V)→Bool→Bool→Prop)→Prop
def Yq1p (xq00:Tq00) (xq14:Tq14) (a0:Q53) (a1:Q51) (K:Q58→Int→(List Eng.V)→Bool→Bool→Prop):Prop :=
 (dup (
 xq00 a0.1 (fun r2 r3 r4 =>
 (if r3 then
 (if Eng.roomOk (List.length r2+List.length [Eng.V.agg [Eng.V.c (Value.int IntKind.i64 a1.1),Eng.V.c (Value.int IntKind.i64 a1.2.1),Eng.V.c (Value.bool a1.2.2.1)]]) (24:Nat) then
 (lt (r2++[Eng.V.agg [Eng.V.c (Value.int IntKind.i64 a1.1),Eng.V.c (Value.int IntKind.i64 a1.2.1),Eng.V.c (Value.bool a1.2.2.1)]]) fun v5 =>
 xq14 (v5,a0.2) (fun r6 r7 =>
 (if (r7 != 0) then
 (if 0≤(↑(List.length a0.1):Int)∧(↑(List.length a0.1):Int)=(↑(List.length a0.1):Int)∧(↑(List.length a0.1):Int)≤(↑(List.length v5):Int) then
 K ((),a0.2) r7 (List.take (Int.toNat (↑(List.length a0.1):Int)) v5) r3 r4
 else
 False)
 else
 K ((),a0.2) 0 v5 r3 r4)))
 else
 False)
 else
 False))))
def Xq1p:Tq1p:=Yq1p Xq00 Xq14
def Jq1p (X:Tq1p):Inst:=mkI 87 pL59 .nil pL60 pH49 X
def Iq1p:Inst:=Jq1p Xq1p
theorem Eq1p (xq00:Tq00) (xq14:Tq14):EqF Tryz.prog 37 gives Tryz.f87 [Jq00 xq00,Jq14 xq14] [] (Jq1p (Yq1p xq00 xq14)):=fun x y K=>by kernel_rfl
theorem Iq1p_ok:InstOk Tryz.prog G.1 Iq1p:=iok (gives:=gives) [] (okCons Iq00_ok (okCons Iq14_ok okNil)) 37 follows Tryz.func87 (by kernel_rfl) (fun x=>by kernel_rfl) (Eq1p Xq00 Xq14)
abbrev Tq0k:Type:=Int→Int→(List Eng.V)→Bool→Int→Int→Bool→Q61→(Int→Bool→Int→Int→Bool→(List Eng.V)→Bool→Bool→Q61→Prop)→Prop
def Yq0k (xq1j:Tq1j) (xq22:Tq22) (xq1p:Tq1p) (a0:Int) (a1:Int) (a2:(List Eng.V)) (a3:Bool) (a4:Int) (a5:Int) (a6:Bool) (a7:Q61) (K:Int→Bool→Int→Int→Bool→(List Eng.V)→Bool→Bool→Q61→Prop):Prop :=
 xq1j a0 (fun r8 r9 =>
 xq22 r8 86400 (fun r10 r11 r12 =>
 (if (!a6) then
 (if (r8 != 63072000) then
 K 9 a3 a4 a5 a6 a2 false true a7
 else
 (if (a1 != 10) then
 K 9 a3 a4 a5 a6 a2 false true a7
 else
 (if (!a6) then
 K 0 a3 a4 a1 true a2 false true a7
 else
 (if (r11 != 0) then
 K 5 a3 a4 a5 a6 a2 false true a7
 else
 (if (w64 (a1 - a5) != 1) then
 (if (w64 (a1 - a5) != (-1)) then
 K 6 a3 a4 a5 a6 a2 false true a7
 else
 xq1p (a2,a3,a4,()) (w64 (r10 - 1),w64 (a1 - a5),false,()) (fun r13 r14 r15 r16 r17 =>
 K r14 r13.2.1 r13.2.2.1 a1 a6 r15 r16 r17 a7))
 else
 xq1p (a2,a3,a4,()) (w64 (r10 - 1),w64 (a1 - a5),false,()) (fun r18 r19 r20 r21 r22 =>
 K r19 r18.2.1 r18.2.2.1 a1 a6 r20 r21 r22 a7))))))
 else
 (if (!a6) then
 K 0 a3 a4 a1 true a2 false true a7
 else
 (if (r11 != 0) then
 K 5 a3 a4 a5 a6 a2 false true a7
 else
 (if (w64 (a1 - a5) != 1) then
 (if (w64 (a1 - a5) != (-1)) then
 K 6 a3 a4 a5 a6 a2 false true a7
 else
 xq1p (a2,a3,a4,()) (w64 (r10 - 1),w64 (a1 - a5),false,()) (fun r23 r24 r25 r26 r27 =>
 K r24 r23.2.1 r23.2.2.1 a1 a6 r25 r26 r27 a7))
 else
 xq1p (a2,a3,a4,()) (w64 (r10 - 1),w64 (a1 - a5),false,()) (fun r28 r29 r30 r31 r32 =>
 K r29 r28.2.1 r28.2.2.1 a1 a6 r30 r31 r32 a7)))))))
def Xq0k:Tq0k:=Yq0k Xq1j Xq22 Xq1p
def Jq0k (X:Tq0k):Inst:=mkI 52 pL62 pH63 pL2 pH64 X
def Iq0k:Inst:=Jq0k Xq0k
theorem Eq0k (xq1j:Tq1j) (xq22:Tq22) (xq1p:Tq1p):EqF Tryz.prog 83 gives Tryz.f52 [Jq1j xq1j,Jq22 xq22,Jq1p xq1p] [] (Jq0k (Yq0k xq1j xq22 xq1p)):=fun x y K=>by kernel_rfl
theorem Iq0k_ok:InstOk Tryz.prog G.1 Iq0k:=iok (gives:=gives) [] (okCons Iq1j_ok (okCons Iq22_ok (okCons Iq1p_ok okNil))) 83 follows Tryz.func52 (by kernel_rfl) (fun x=>by kernel_rfl) (Eq0k Xq1j Xq22 Xq1p)
abbrev Tq0j:Type:=Int→Q65→(List Eng.V)→Bool→Int→Int→Bool→Q61→(Int→Bool→Int→Int→Bool→(List Eng.V)→Bool→Bool→Q61→Prop)→Prop
def Yq0j (xq0k:Tq0k) (a0:Int) (a1:Q65) (a2:(List Eng.V)) (a3:Bool) (a4:Int) (a5:Int) (a6:Bool) (a7:Q61) (K:Int→Bool→Int→Int→Bool→(List Eng.V)→Bool→Bool→Q61→Prop):Prop :=
 (if (!a1.2.2.2.1) then
 K 2 a3 a4 a5 a6 a2 false true a7
 else
 (if (ByteArray.toList a1.1 == ByteArray.toList (ByteArray.mk #[(35:UInt8),(36:UInt8)])) then
 (if (ByteArray.toList a1.1 == ByteArray.toList (ByteArray.mk #[(35:UInt8),(36:UInt8)])) then
 (Eng.asMpI IntKind.i64 (Eng.mpGet a1.1 a7) False fun n8 n9 =>
 (if decide (n8 > 0) then
 K 2 a3 a4 a5 a6 a2 false true a7
 else
 (if Option.isSome (Eng.mpGet a1.1 a7) then
 K 0 a3 a4 a5 a6 a2 false true (Eng.mpPut a1.1 (Eng.V.c (Value.int IntKind.i64 a0)) a7)
 else
 False)))
 else
 (if (ByteArray.toList a1.1 == ByteArray.toList (ByteArray.mk #[])) then
 (if (0 :Int)≤0∧0 < (↑(List.length a1.2.2.1):Int) then
 (Eng.asInt IntKind.i64 (Eng.getC a1.2.2.1 (0:Nat) (0:Nat)) False fun n10 =>
 (if (0 :Int)≤1∧1 < (↑(List.length a1.2.2.1):Int) then
 (Eng.asInt IntKind.i64 (Eng.getC a1.2.2.1 (1:Nat) (0:Nat)) False fun n11 =>
 xq0k n10 n11 a2 a3 a4 a5 a6 a7 (fun r12 r13 r14 r15 r16 r17 r18 r19 r20 =>
 K r12 r13 r14 r15 r16 r17 r18 r19 r20))
 else
 False))
 else
 False)
 else
 K 0 a3 a4 a5 a6 a2 false true a7))
 else
 (if (ByteArray.toList a1.1 == ByteArray.toList (ByteArray.mk #[(35:UInt8),(64:UInt8)])) then
 (if (ByteArray.toList a1.1 == ByteArray.toList (ByteArray.mk #[(35:UInt8),(64:UInt8)])) then
 (Eng.asMpI IntKind.i64 (Eng.mpGet a1.1 a7) False fun n21 n22 =>
 (if decide (n21 > 0) then
 K 2 a3 a4 a5 a6 a2 false true a7
 else
 (if Option.isSome (Eng.mpGet a1.1 a7) then
 K 0 a3 a4 a5 a6 a2 false true (Eng.mpPut a1.1 (Eng.V.c (Value.int IntKind.i64 a0)) a7)
 else
 False)))
 else
 (if (ByteArray.toList a1.1 == ByteArray.toList (ByteArray.mk #[])) then
 (if (0 :Int)≤0∧0 < (↑(List.length a1.2.2.1):Int) then
 (Eng.asInt IntKind.i64 (Eng.getC a1.2.2.1 (0:Nat) (0:Nat)) False fun n23 =>
 (if (0 :Int)≤1∧1 < (↑(List.length a1.2.2.1):Int) then
 (Eng.asInt IntKind.i64 (Eng.getC a1.2.2.1 (1:Nat) (0:Nat)) False fun n24 =>
 xq0k n23 n24 a2 a3 a4 a5 a6 a7 (fun r25 r26 r27 r28 r29 r30 r31 r32 r33 =>
 K r25 r26 r27 r28 r29 r30 r31 r32 r33))
 else
 False))
 else
 False)
 else
 K 0 a3 a4 a5 a6 a2 false true a7))
 else
 (if (ByteArray.toList a1.1 == ByteArray.toList (ByteArray.mk #[(35:UInt8),(104:UInt8)])) then
 (Eng.asMpI IntKind.i64 (Eng.mpGet a1.1 a7) False fun n34 n35 =>
 (if decide (n34 > 0) then
 K 2 a3 a4 a5 a6 a2 false true a7
 else
 (if Option.isSome (Eng.mpGet a1.1 a7) then
 K 0 a3 a4 a5 a6 a2 false true (Eng.mpPut a1.1 (Eng.V.c (Value.int IntKind.i64 a0)) a7)
 else
 False)))
 else
 (if (ByteArray.toList a1.1 == ByteArray.toList (ByteArray.mk #[])) then
 (if (0 :Int)≤0∧0 < (↑(List.length a1.2.2.1):Int) then
 (Eng.asInt IntKind.i64 (Eng.getC a1.2.2.1 (0:Nat) (0:Nat)) False fun n36 =>
 (if (0 :Int)≤1∧1 < (↑(List.length a1.2.2.1):Int) then
 (Eng.asInt IntKind.i64 (Eng.getC a1.2.2.1 (1:Nat) (0:Nat)) False fun n37 =>
 xq0k n36 n37 a2 a3 a4 a5 a6 a7 (fun r38 r39 r40 r41 r42 r43 r44 r45 r46 =>
 K r38 r39 r40 r41 r42 r43 r44 r45 r46))
 else
 False))
 else
 False)
 else
 K 0 a3 a4 a5 a6 a2 false true a7)))))
def Xq0j:Tq0j:=Yq0j Xq0k
def Jq0j (X:Tq0j):Inst:=mkI 20 pL66 pH63 pL2 pH64 X
def Iq0j:Inst:=Jq0j Xq0j
theorem Eq0j (xq0k:Tq0k):EqF Tryz.prog 43 gives Tryz.f20 [Jq0k xq0k] [] (Jq0j (Yq0j xq0k)):=fun x y K=>by kernel_rfl
theorem Iq0j_ok:InstOk Tryz.prog G.1 Iq0j:=iok (gives:=gives) [] (okCons Iq0k_ok okNil) 43 follows Tryz.func20 (by kernel_rfl) (fun x=>by kernel_rfl) (Eq0j Xq0k)
abbrev Tq0s:Type:=Int→Int→(Q58→Q67→(List Eng.V)→Bool→Bool→Prop)→Prop
def Yq0s (a0:Int) (a1:Int) (K:Q58→Q67→(List Eng.V)→Bool→Bool→Prop):Prop :=
 K ((),false,0,()) (a0,a1,()) [] true true
def Xq0s:Tq0s:=Yq0s
def Jq0s (X:Tq0s):Inst:=mkI 18 pL20 .nil pL68 pH49 X
def Iq0s:Inst:=Jq0s Xq0s
theorem Eq0s:EqF Tryz.prog 10 gives Tryz.f18 [] [] (Jq0s (Yq0s)):=fun x y K=>by kernel_rfl
theorem Iq0s_ok:InstOk Tryz.prog G.1 Iq0s:=iok (gives:=gives) [] okNil 10 follows Tryz.func18 (by kernel_rfl) (fun x=>by kernel_rfl) (Eq0s)
abbrev Tq11:Type:=Q53→(Bool→Prop)→Prop
def Yq11 (xq14:Tq14) (a0:Q53) (K:Bool→Prop):Prop :=
 xq14 a0 (fun r1 r2 =>
 K (r2 == 0))
def Xq11:Tq11:=Yq11 Xq14
def Jq11 (X:Tq11):Inst:=mkI 22 pL57 .nil pL9 .nil X
def Iq11:Inst:=Jq11 Xq11
theorem Eq11 (xq14:Tq14):EqF Tryz.prog 12 gives Tryz.f22 [Jq14 xq14] [] (Jq11 (Yq11 xq14)):=fun x y K=>by kernel_rfl
theorem Iq11_ok:InstOk Tryz.prog G.1 Iq11:=iok (gives:=gives) [] (okCons Iq14_ok okNil) 12 follows Tryz.func22 (by kernel_rfl) (fun x=>by kernel_rfl) (Eq11 Xq14)
abbrev Tq06:Type:=Int→((List Eng.V)→Bool→Bool→Prop)→Prop
def Yq06 (a0:Int) (K:(List Eng.V)→Bool→Bool→Prop):Prop :=
 (if decide (a0 < 0) then
 False
 else
 (if decide (w64 (a0 - 0) > 0) then
 (if 0≤w64 (a0 - 0)∧w64 (a0 - 0)≤4398046511104 then
 (if Eng.roomOk ((0:Nat)+List.length (List.replicate (Int.toNat (w64 (a0 - 0))) (Eng.ofVal (Value.int IntKind.u8 0)))) (1:Nat) then
 K [] true false
 else
 False)
 else
 False)
 else
 K [] true true))
def Xq06:Tq06:=Yq06
def Jq06 (X:Tq06):Inst:=mkI 122 pL69 .nil pL7 pH8 X
def Iq06:Inst:=Jq06 Xq06
theorem Eq06:EqF Tryz.prog 27 gives Tryz.f122 [] [] (Jq06 (Yq06)):=fun x y K=>by kernel_rfl
theorem Iq06_ok:InstOk Tryz.prog G.1 Iq06:=iok (gives:=gives) [] okNil 27 follows Tryz.func122 (by kernel_rfl) (fun x=>by kernel_rfl) (Eq06)
abbrev Tq04:Type:=(List Eng.V)→((List Eng.V)→Bool→Bool→Prop)→Prop
def Lq04_1 (K:(List Eng.V)→Bool→Bool→Prop) (k1:Q70→Prop):(Q71→Prop)→Q71→Prop:=fun k8 x9 =>
 (if decide (x9.1.2.2.2.2.1 < x9.1.2.2.2.1) then
 (if 0≤x9.1.2.2.2.2.1∧x9.1.2.2.2.2.1 < (↑(List.length x9.1.2.2.1):Int) then
 (Eng.asSl (1:Nat) (Eng.getC x9.1.2.2.1 (Int.toNat x9.1.2.2.2.2.1) (0:Nat)) False fun l10 l11 =>
 (if x9.2.1.2.1 then
 (if Eng.roomOk (List.length x9.2.1.1+List.length l11) (1:Nat) then
 k8 (((),(),x9.1.2.2.1,x9.1.2.2.2.1,w64 (x9.1.2.2.2.2.1+1),()),(x9.2.1.1++l11,x9.2.1.2),())
 else
 False)
 else
 False))
 else
 False)
 else
 K x9.2.1.1 x9.2.1.2.1 x9.2.1.2.2)
def Lq04_1p:Lp:=⟨234881092,[.trim 234881092],pT72,pH73,0⟩
def Lq04_0 (xq06:Tq06) (K:(List Eng.V)→Bool→Bool→Prop):(Q70→Prop)→Q70→Prop:=fun k1 x2 =>
 (if decide (x2.1.2.2.2.2.2.1 < x2.1.2.2.2.2.1) then
 (if 0≤x2.1.2.2.2.2.2.1∧x2.1.2.2.2.2.2.1 < (↑(List.length x2.1.2.2.2.1):Int) then
 (Eng.asSl (1:Nat) (Eng.getC x2.1.2.2.2.1 (Int.toNat x2.1.2.2.2.2.2.1) (0:Nat)) False fun l3 l4 =>
 (if decide (w64 (x2.1.2.2.1+(↑(List.length l4):Int)) < 0) then
 False
 else
 k1 ((x2.1.1,(),w64 (x2.1.2.2.1+(↑(List.length l4):Int)),x2.1.2.2.2.1,x2.1.2.2.2.2.1,w64 (x2.1.2.2.2.2.2.1+1),()),())))
 else
 False)
 else
 xq06 x2.1.2.2.1 (fun r5 r6 r7 =>
 lp (Lq04_1 K k1) (((),(),x2.1.1,(↑(List.length x2.1.1):Int),0,()),(r5,r6,r7),())))
def Lq04_0p:Lp:=⟨3597,[.trim 3597],pT74,.nil,0⟩
def Yq04 (xq06:Tq06) (a0:(List Eng.V)) (K:(List Eng.V)→Bool→Bool→Prop):Prop :=
 lp (Lq04_0 xq06 K) ((a0,(),0,a0,(↑(List.length a0):Int),0,()),())
def Xq04:Tq04:=Yq04 Xq06
def Jq04 (X:Tq04):Inst:=mkI 95 pL75 .nil pL7 pH8 X
def Iq04:Inst:=Jq04 Xq04
theorem Eq04 (xq06:Tq06):EqF Tryz.prog 36 gives Tryz.f95 [Jq06 xq06] [Lq04_0p,Lq04_1p] (Jq04 (Yq04 xq06)):=fun x y K=>by kernel_rfl
theorem Iq04_ok:InstOk Tryz.prog G.1 Iq04:=iok (gives:=gives) [Lq04_0p,Lq04_1p] (okCons Iq06_ok okNil) 36 follows Tryz.func95 (by kernel_rfl) (fun x=>by kernel_rfl) (Eq04 Xq06)
abbrev Tq08:Type:=Int→Int→(Int→Prop)→Prop
def Yq08 (a0:Int) (a1:Int) (K:Int→Prop):Prop :=
 (lt (wu32 (a0 * 2 ^ Min.min (Int.toNat (wu64 (↑(BitVec.toNat (BitVec.ofInt (64:Nat) (wu64 a1) &&& BitVec.ofInt (64:Nat) 31)):Int))) (32:Nat))) fun v2 =>
 (lt (wu64 (32 - wu64 (↑(BitVec.toNat (BitVec.ofInt (64:Nat) (wu64 a1) &&& BitVec.ofInt (64:Nat) 31)):Int))) fun v3 =>
 (if v3 < 0 then
 False
 else
 K (wu32 (↑(BitVec.toNat (BitVec.ofInt (32:Nat) v2 ||| BitVec.ofInt (32:Nat) (Int.fdiv a0 (2 ^ Min.min (Int.toNat v3) (32:Nat))))):Int)))))
def Xq08:Tq08:=Yq08
def Jq08 (X:Tq08):Inst:=mkI 123 pL76 .nil pL77 .nil X
def Iq08:Inst:=Jq08 Xq08
theorem Eq08:EqF Tryz.prog 17 gives Tryz.f123 [] [] (Jq08 (Yq08)):=fun x y K=>by kernel_rfl
theorem Iq08_ok:InstOk Tryz.prog G.1 Iq08:=iok (gives:=gives) [] okNil 17 follows Tryz.func123 (by kernel_rfl) (fun x=>by kernel_rfl) (Eq08)
abbrev Tq0l:Type:=Int→Int→Int→Int→Int→Int→Int→Int→(Int→Int→Int→Int→Int→Prop)→Prop
def Yq0l (xq08:Tq08) (a0:Int) (a1:Int) (a2:Int) (a3:Int) (a4:Int) (a5:Int) (a6:Int) (a7:Int) (K:Int→Int→Int→Int→Int→Prop):Prop :=
 xq08 a3 5 (fun r8 =>
 (lt (wu32 (wu32 (r8+a0)+a7)) fun v9 =>
 (lt (wu32 (wu32 (v9+a1)+a2)) fun v10 =>
 xq08 a4 30 (fun r11 =>
 K v10 a3 r11 a5 a6))))
def Xq0l:Tq0l:=Yq0l Xq08
def Jq0l (X:Tq0l):Inst:=mkI 124 pL78 pH79 .nil pH79 X
def Iq0l:Inst:=Jq0l Xq0l
theorem Eq0l (xq08:Tq08):EqF Tryz.prog 58 gives Tryz.f124 [Jq08 xq08] [] (Jq0l (Yq0l xq08)):=fun x y K=>by kernel_rfl
theorem Iq0l_ok:InstOk Tryz.prog G.1 Iq0l:=iok (gives:=gives) [] (okCons Iq08_ok okNil) 58 follows Tryz.func124 (by kernel_rfl) (fun x=>by kernel_rfl) (Eq0l Xq08)
abbrev Tq0g:Type:=(List Eng.V)→Int→Int→Int→Int→Int→(Int→Int→Int→Int→Int→Prop)→Prop
def Lq0g_4p:Lp:=⟨261336857795280739939871698507597986398209,[],.nil,.nil,12⟩
def Lq0g_3 (xq0l:Tq0l) (K:Int→Int→Int→Int→Int→Prop) (a1:Int) (a2:Int) (a3:Int) (a4:Int) (a5:Int) (k6:Q80→Prop) (k16:Q81→Prop):(Q82→Prop)→Q82→Prop:=fun k26 x27 =>
 (if decide (x27.1.2.2.2.1 < 80) then
 (if 0≤x27.1.2.2.2.1∧x27.1.2.2.2.1 < 80 then
 (Eng.asInt IntKind.u32 (x27.1.2.2.1[Int.toNat x27.1.2.2.2.1 * (1:Nat)]?) False fun n28 =>
 (if (w64 (Int.tdiv x27.1.2.2.2.1 20) == 0) then
 (lt (wu32 (↑(BitVec.toNat (BitVec.ofInt (32:Nat) x27.2.1.2.1 &&& BitVec.ofInt (32:Nat) (wu32 (↑(BitVec.toNat (BitVec.ofInt (32:Nat) x27.2.1.2.2.1 ^^^ BitVec.ofInt (32:Nat) x27.2.1.2.2.2.1)):Int)))):Int)) fun v29 =>
 xq0l (wu32 (↑(BitVec.toNat (BitVec.ofInt (32:Nat) x27.2.1.2.2.2.1 ^^^ BitVec.ofInt (32:Nat) v29)):Int)) 1518500249 n28 x27.2.1.1 x27.2.1.2.1 x27.2.1.2.2.1 x27.2.1.2.2.2.1 x27.2.1.2.2.2.2.1 (fun r30 r31 r32 r33 r34 =>
 k26 (((),(),x27.1.2.2.1,w64 (x27.1.2.2.2.1+1),()),(r30,r31,r32,r33,r34,()),x27.2.2)))
 else
 (if (w64 (Int.tdiv x27.1.2.2.2.1 20) == 1) then
 (lt (wu32 (↑(BitVec.toNat (BitVec.ofInt (32:Nat) (wu32 (↑(BitVec.toNat (BitVec.ofInt (32:Nat) x27.2.1.2.1 ^^^ BitVec.ofInt (32:Nat) x27.2.1.2.2.1)):Int)) ^^^ BitVec.ofInt (32:Nat) x27.2.1.2.2.2.1)):Int)) fun v35 =>
 xq0l v35 1859775393 n28 x27.2.1.1 x27.2.1.2.1 x27.2.1.2.2.1 x27.2.1.2.2.2.1 x27.2.1.2.2.2.2.1 (fun r36 r37 r38 r39 r40 =>
 k26 (((),(),x27.1.2.2.1,w64 (x27.1.2.2.2.1+1),()),(r36,r37,r38,r39,r40,()),x27.2.2)))
 else
 (if (w64 (Int.tdiv x27.1.2.2.2.1 20) == 2) then
 (lt (wu32 (↑(BitVec.toNat (BitVec.ofInt (32:Nat) x27.2.1.2.2.2.1 &&& BitVec.ofInt (32:Nat) (wu32 (↑(BitVec.toNat (BitVec.ofInt (32:Nat) x27.2.1.2.1 ||| BitVec.ofInt (32:Nat) x27.2.1.2.2.1)):Int)))):Int)) fun v41 =>
 (lt (wu32 (↑(BitVec.toNat (BitVec.ofInt (32:Nat) (wu32 (↑(BitVec.toNat (BitVec.ofInt (32:Nat) x27.2.1.2.1 &&& BitVec.ofInt (32:Nat) x27.2.1.2.2.1)):Int)) ||| BitVec.ofInt (32:Nat) v41)):Int)) fun v42 =>
 xq0l v42 2400959708 n28 x27.2.1.1 x27.2.1.2.1 x27.2.1.2.2.1 x27.2.1.2.2.2.1 x27.2.1.2.2.2.2.1 (fun r43 r44 r45 r46 r47 =>
 k26 (((),(),x27.1.2.2.1,w64 (x27.1.2.2.2.1+1),()),(r43,r44,r45,r46,r47,()),x27.2.2))))
 else
 (lt (wu32 (↑(BitVec.toNat (BitVec.ofInt (32:Nat) (wu32 (↑(BitVec.toNat (BitVec.ofInt (32:Nat) x27.2.1.2.1 ^^^ BitVec.ofInt (32:Nat) x27.2.1.2.2.1)):Int)) ^^^ BitVec.ofInt (32:Nat) x27.2.1.2.2.2.1)):Int)) fun v48 =>
 xq0l v48 3395469782 n28 x27.2.1.1 x27.2.1.2.1 x27.2.1.2.2.1 x27.2.1.2.2.2.1 x27.2.1.2.2.2.2.1 (fun r49 r50 r51 r52 r53 =>
 k26 (((),(),x27.1.2.2.1,w64 (x27.1.2.2.2.1+1),()),(r49,r50,r51,r52,r53,()),x27.2.2)))))))
 else
 False)
 else
 K (wu32 (x27.2.1.1+x27.2.2.1.1)) (wu32 (x27.2.1.2.1+x27.2.2.1.2.1)) (wu32 (x27.2.1.2.2.1+x27.2.2.1.2.2.1)) (wu32 (x27.2.1.2.2.2.1+x27.2.2.1.2.2.2.1)) (wu32 (x27.2.1.2.2.2.2.1+x27.2.2.1.2.2.2.2.1)))
def Lq0g_3p:Lp:=⟨14167099448608935641601,[.trim 14167099448608935641601],pT83,pH84,0⟩
def Lq0g_2 (xq08:Tq08) (xq0l:Tq0l) (K:Int→Int→Int→Int→Int→Prop) (a1:Int) (a2:Int) (a3:Int) (a4:Int) (a5:Int) (k6:Q80→Prop):(Q81→Prop)→Q81→Prop:=fun k16 x17 =>
 (if decide (x17.1.2.2.1 < 80) then
 (if 0≤w64 (x17.1.2.2.1 - 3)∧w64 (x17.1.2.2.1 - 3) < 80 then
 (Eng.asInt IntKind.u32 (Eng.getC x17.2.2.1 (0:Nat) ((0:Nat)+Int.toNat (w64 (x17.1.2.2.1 - 3)) * (1:Nat))) False fun n18 =>
 (if 0≤w64 (x17.1.2.2.1 - 8)∧w64 (x17.1.2.2.1 - 8) < 80 then
 (Eng.asInt IntKind.u32 (Eng.getC x17.2.2.1 (0:Nat) ((0:Nat)+Int.toNat (w64 (x17.1.2.2.1 - 8)) * (1:Nat))) False fun n19 =>
 (if 0≤w64 (x17.1.2.2.1 - 14)∧w64 (x17.1.2.2.1 - 14) < 80 then
 (Eng.asInt IntKind.u32 (Eng.getC x17.2.2.1 (0:Nat) ((0:Nat)+Int.toNat (w64 (x17.1.2.2.1 - 14)) * (1:Nat))) False fun n20 =>
 (lt (wu32 (↑(BitVec.toNat (BitVec.ofInt (32:Nat) (wu32 (↑(BitVec.toNat (BitVec.ofInt (32:Nat) n18 ^^^ BitVec.ofInt (32:Nat) n19)):Int)) ^^^ BitVec.ofInt (32:Nat) n20)):Int)) fun v21 =>
 (if 0≤w64 (x17.1.2.2.1 - 16)∧w64 (x17.1.2.2.1 - 16) < 80 then
 (Eng.asInt IntKind.u32 (Eng.getC x17.2.2.1 (0:Nat) ((0:Nat)+Int.toNat (w64 (x17.1.2.2.1 - 16)) * (1:Nat))) False fun n22 =>
 xq08 (wu32 (↑(BitVec.toNat (BitVec.ofInt (32:Nat) v21 ^^^ BitVec.ofInt (32:Nat) n22)):Int)) 1 (fun r23 =>
 (if 0≤x17.1.2.2.1∧x17.1.2.2.1 < 80 then
 (if (0:Nat) < List.length x17.2.2.1 then
 (if (0:Nat)+Int.toNat x17.1.2.2.1 * (1:Nat)+List.length [Eng.V.c (Value.int IntKind.u32 r23)]≤(80:Nat) then
 (lt (List.set x17.2.2.1 (0:Nat) (Eng.setE (List.getD x17.2.2.1 (0:Nat) Eng.V.bad) ((0:Nat)+Int.toNat x17.1.2.2.1 * (1:Nat)) [Eng.V.c (Value.int IntKind.u32 r23)])) fun v24 =>
 k16 (((),(),w64 (x17.1.2.2.1+1),()),x17.2.1,v24,()))
 else
 False)
 else
 False)
 else
 False)))
 else
 False)))
 else
 False))
 else
 False))
 else
 False)
 else
 (Eng.asAgg (x17.2.2.1[(0:Nat)]?) False fun l25 =>
 (if List.length l25=(80:Nat)∧List.all l25 Eng.isC then
 lp (Lq0g_3 xq0l K a1 a2 a3 a4 a5 k6 k16) (((),(),l25,0,()),x17.2.1,x17.2.1,())
 else
 False)))
def Lq0g_2p:Lp:=⟨273,[.trim 273],pT85,pH86,0⟩
def Lq0g_1 (K:Int→Int→Int→Int→Int→Prop) (a1:Int) (a2:Int) (a3:Int) (a4:Int) (a5:Int) (k6:Q80→Prop):(Q87→Prop)→Q87→Prop:=fun k10 x11 =>
 (if decide (x11.1.2.2.2.2.2.2.2.1 < x11.1.2.2.2.2.2.2.1) then
 (if 0≤x11.1.2.2.2.2.2.2.2.1∧x11.1.2.2.2.2.2.2.2.1 < (↑(List.length x11.1.2.2.2.2.2.1):Int) then
 (Eng.asInt IntKind.u8 (Eng.getC x11.1.2.2.2.2.2.1 (Int.toNat x11.1.2.2.2.2.2.2.2.1) (0:Nat)) False fun n12 =>
 (if 0≤x11.1.2.2.2.1∧x11.1.2.2.2.1 < 80 then
 (Eng.asInt IntKind.u32 (Eng.getC x11.2.2.1 (0:Nat) ((0:Nat)+Int.toNat x11.1.2.2.2.1 * (1:Nat))) False fun n13 =>
 (lt (wu32 (↑(BitVec.toNat (BitVec.ofInt (32:Nat) (wu32 (n13 * 256)) ||| BitVec.ofInt (32:Nat) (wu32 n12))):Int)) fun v14 =>
 (if 0≤x11.1.2.2.2.1∧x11.1.2.2.2.1 < 80 then
 (if (0:Nat) < List.length x11.2.2.1 then
 (if (0:Nat)+Int.toNat x11.1.2.2.2.1 * (1:Nat)+List.length [Eng.V.c (Value.int IntKind.u32 v14)]≤(80:Nat) then
 (lt (List.set x11.2.2.1 (0:Nat) (Eng.setE (List.getD x11.2.2.1 (0:Nat) Eng.V.bad) ((0:Nat)+Int.toNat x11.1.2.2.2.1 * (1:Nat)) [Eng.V.c (Value.int IntKind.u32 v14)])) fun v15 =>
 k10 (((),x11.1.2.1,(),x11.1.2.2.2.1,x11.1.2.2.2.2.1,x11.1.2.2.2.2.2.1,x11.1.2.2.2.2.2.2.1,w64 (x11.1.2.2.2.2.2.2.2.1+1),()),x11.2.1,v15,()))
 else
 False)
 else
 False)
 else
 False)))
 else
 False))
 else
 False)
 else
 k6 (((),x11.1.2.1,(),w64 (x11.1.2.2.2.2.1+1),()),x11.2))
def Lq0g_1p:Lp:=⟨469893171,[.trim 469893171],pT88,pH86,0⟩
def Lq0g_0 (xq08:Tq08) (xq0l:Tq0l) (K:Int→Int→Int→Int→Int→Prop) (a1:Int) (a2:Int) (a3:Int) (a4:Int) (a5:Int):(Q80→Prop)→Q80→Prop:=fun k6 x7 =>
 (if decide (x7.1.2.2.2.1 < 16) then
 (lt (w64 (w64 (4 * x7.1.2.2.2.1)+4)) fun v8 =>
 (if 0≤v8∧v8≤(↑(List.length x7.1.2.1):Int) then
 (if 0≤w64 (4 * x7.1.2.2.2.1)∧w64 (4 * x7.1.2.2.2.1)≤v8 then
 (lt (Eng.cutL x7.1.2.1 (Int.toNat (w64 (4 * x7.1.2.2.2.1))) (Int.toNat v8 - Int.toNat (w64 (4 * x7.1.2.2.2.1)))) fun v9 =>
 lp (Lq0g_1 K a1 a2 a3 a4 a5 k6) (((),x7.1.2.1,(),x7.1.2.2.2.1,x7.1.2.2.2.1,v9,(↑(List.length v9):Int),0,()),x7.2))
 else
 False)
 else
 False))
 else
 lp (Lq0g_2 xq08 xq0l K a1 a2 a3 a4 a5 k6) (((),(),16,()),x7.2))
def Lq0g_0p:Lp:=⟨131091,[.trim 131091],pT89,pH86,0⟩
def Yq0g (xq08:Tq08) (xq0l:Tq0l) (a0:(List Eng.V)) (a1:Int) (a2:Int) (a3:Int) (a4:Int) (a5:Int) (K:Int→Int→Int→Int→Int→Prop):Prop :=
 lp (Lq0g_0 xq08 xq0l K a1 a2 a3 a4 a5) (((),a0,(),0,()),(a1,a2,a3,a4,a5,()),[Eng.V.agg [Eng.V.c (Value.int IntKind.u32 0),Eng.V.c (Value.int IntKind.u32 0),Eng.V.c (Value.int IntKind.u32 0),Eng.V.c (Value.int IntKind.u32 0),Eng.V.c (Value.int IntKind.u32 0),Eng.V.c (Value.int IntKind.u32 0),Eng.V.c (Value.int IntKind.u32 0),Eng.V.c (Value.int IntKind.u32 0),Eng.V.c (Value.int IntKind.u32 0),Eng.V.c (Value.int IntKind.u32 0),Eng.V.c (Value.int IntKind.u32 0),Eng.V.c (Value.int IntKind.u32 0),Eng.V.c (Value.int IntKind.u32 0),Eng.V.c (Value.int IntKind.u32 0),Eng.V.c (Value.int IntKind.u32 0),Eng.V.c (Value.int IntKind.u32 0),Eng.V.c (Value.int IntKind.u32 0),Eng.V.c (Value.int IntKind.u32 0),Eng.V.c (Value.int IntKind.u32 0),Eng.V.c (Value.int IntKind.u32 0),Eng.V.c (Value.int IntKind.u32 0),Eng.V.c (Value.int IntKind.u32 0),Eng.V.c (Value.int IntKind.u32 0),Eng.V.c (Value.int IntKind.u32 0),Eng.V.c (Value.int IntKind.u32 0),Eng.V.c (Value.int IntKind.u32 0),Eng.V.c (Value.int IntKind.u32 0),Eng.V.c (Value.int IntKind.u32 0),Eng.V.c (Value.int IntKind.u32 0),Eng.V.c (Value.int IntKind.u32 0),Eng.V.c (Value.int IntKind.u32 0),Eng.V.c (Value.int IntKind.u32 0),Eng.V.c (Value.int IntKind.u32 0),Eng.V.c (Value.int IntKind.u32 0),Eng.V.c (Value.int IntKind.u32 0),Eng.V.c (Value.int IntKind.u32 0),Eng.V.c (Value.int IntKind.u32 0),Eng.V.c (Value.int IntKind.u32 0),Eng.V.c (Value.int IntKind.u32 0),Eng.V.c (Value.int IntKind.u32 0),Eng.V.c (Value.int IntKind.u32 0),Eng.V.c (Value.int IntKind.u32 0),Eng.V.c (Value.int IntKind.u32 0),Eng.V.c (Value.int IntKind.u32 0),Eng.V.c (Value.int IntKind.u32 0),Eng.V.c (Value.int IntKind.u32 0),Eng.V.c (Value.int IntKind.u32 0),Eng.V.c (Value.int IntKind.u32 0),Eng.V.c (Value.int IntKind.u32 0),Eng.V.c (Value.int IntKind.u32 0),Eng.V.c (Value.int IntKind.u32 0),Eng.V.c (Value.int IntKind.u32 0),Eng.V.c (Value.int IntKind.u32 0),Eng.V.c (Value.int IntKind.u32 0),Eng.V.c (Value.int IntKind.u32 0),Eng.V.c (Value.int IntKind.u32 0),Eng.V.c (Value.int IntKind.u32 0),Eng.V.c (Value.int IntKind.u32 0),Eng.V.c (Value.int IntKind.u32 0),Eng.V.c (Value.int IntKind.u32 0),Eng.V.c (Value.int IntKind.u32 0),Eng.V.c (Value.int IntKind.u32 0),Eng.V.c (Value.int IntKind.u32 0),Eng.V.c (Value.int IntKind.u32 0),Eng.V.c (Value.int IntKind.u32 0),Eng.V.c (Value.int IntKind.u32 0),Eng.V.c (Value.int IntKind.u32 0),Eng.V.c (Value.int IntKind.u32 0),Eng.V.c (Value.int IntKind.u32 0),Eng.V.c (Value.int IntKind.u32 0),Eng.V.c (Value.int IntKind.u32 0),Eng.V.c (Value.int IntKind.u32 0),Eng.V.c (Value.int IntKind.u32 0),Eng.V.c (Value.int IntKind.u32 0),Eng.V.c (Value.int IntKind.u32 0),Eng.V.c (Value.int IntKind.u32 0),Eng.V.c (Value.int IntKind.u32 0),Eng.V.c (Value.int IntKind.u32 0),Eng.V.c (Value.int IntKind.u32 0),Eng.V.c (Value.int IntKind.u32 0)]],())
def Xq0g:Tq0g:=Yq0g Xq08 Xq0l
def Jq0g (X:Tq0g):Inst:=mkI 96 pL90 pH79 .nil pH79 X
def Iq0g:Inst:=Jq0g Xq0g
theorem Eq0g (xq08:Tq08) (xq0l:Tq0l):EqF Tryz.prog 151 gives Tryz.f96 [Jq08 xq08,Jq0l xq0l] [Lq0g_0p,Lq0g_1p,Lq0g_2p,Lq0g_3p,Lq0g_4p] (Jq0g (Yq0g xq08 xq0l)):=fun x y K=>by kernel_rfl
theorem Iq0g_ok:InstOk Tryz.prog G.1 Iq0g:=iok (gives:=gives) [Lq0g_0p,Lq0g_1p,Lq0g_2p,Lq0g_3p,Lq0g_4p] (okCons Iq08_ok (okCons Iq0l_ok okNil)) 151 follows Tryz.func96 (by kernel_rfl) (fun x=>by kernel_rfl) (Eq0g Xq08 Xq0l)
abbrev Tq1y:Type:=(List Eng.V)→(Q91→Prop)→Prop
def Lq1y_2 (K:Q91→Prop) (k6:Q92→Prop) (k9:Q93→Prop):(Q94→Prop)→Q94→Prop:=fun k16 x17 =>
 (if decide (x17.1.2.2.1 < 20) then
 (if 0≤w64 (Int.tdiv x17.1.2.2.1 4)∧w64 (Int.tdiv x17.1.2.2.1 4) < 5 then
 (Eng.asInt IntKind.u32 ([Eng.V.c (Value.int IntKind.u32 x17.2.2.1.1),Eng.V.c (Value.int IntKind.u32 x17.2.2.1.2.1),Eng.V.c (Value.int IntKind.u32 x17.2.2.1.2.2.1),Eng.V.c (Value.int IntKind.u32 x17.2.2.1.2.2.2.1),Eng.V.c (Value.int IntKind.u32 x17.2.2.1.2.2.2.2.1)][(0:Nat)+Int.toNat (w64 (Int.tdiv x17.1.2.2.1 4)) * (1:Nat)]?) False fun n18 =>
 (lt (w64 (24 - w64 (Int.tmod x17.1.2.2.1 (4 :Int) * 8))) fun v19 =>
 (if v19 < 0 then
 False
 else
 (if 0≤x17.1.2.2.1∧x17.1.2.2.1 < 20 then
 (if (0:Nat) < List.length x17.2.1 then
 (if (0:Nat)+Int.toNat x17.1.2.2.1 * (1:Nat)+List.length [Eng.V.c (Value.int IntKind.u8 (wu8 (Int.fdiv n18 (2 ^ Min.min (Int.toNat v19) (32:Nat)))))]≤(20:Nat) then
 (lt (List.set x17.2.1 (0:Nat) (Eng.setE (List.getD x17.2.1 (0:Nat) Eng.V.bad) ((0:Nat)+Int.toNat x17.1.2.2.1 * (1:Nat)) [Eng.V.c (Value.int IntKind.u8 (wu8 (Int.fdiv n18 (2 ^ Min.min (Int.toNat v19) (32:Nat)))))])) fun v20 =>
 k16 (((),(),w64 (x17.1.2.2.1+1),()),v20,x17.2.2))
 else
 False)
 else
 False)
 else
 False))))
 else
 False)
 else
 (Eng.asInt IntKind.u8 (Eng.getC x17.2.1 (0:Nat) (0:Nat)) False fun n21 =>
 (Eng.asInt IntKind.u8 (Eng.getC x17.2.1 (0:Nat) (1:Nat)) False fun n22 =>
 (Eng.asInt IntKind.u8 (Eng.getC x17.2.1 (0:Nat) (2:Nat)) False fun n23 =>
 (Eng.asInt IntKind.u8 (Eng.getC x17.2.1 (0:Nat) (3:Nat)) False fun n24 =>
 (Eng.asInt IntKind.u8 (Eng.getC x17.2.1 (0:Nat) (4:Nat)) False fun n25 =>
 (Eng.asInt IntKind.u8 (Eng.getC x17.2.1 (0:Nat) (5:Nat)) False fun n26 =>
 (Eng.asInt IntKind.u8 (Eng.getC x17.2.1 (0:Nat) (6:Nat)) False fun n27 =>
 (Eng.asInt IntKind.u8 (Eng.getC x17.2.1 (0:Nat) (7:Nat)) False fun n28 =>
 (Eng.asInt IntKind.u8 (Eng.getC x17.2.1 (0:Nat) (8:Nat)) False fun n29 =>
 (Eng.asInt IntKind.u8 (Eng.getC x17.2.1 (0:Nat) (9:Nat)) False fun n30 =>
 (Eng.asInt IntKind.u8 (Eng.getC x17.2.1 (0:Nat) (10:Nat)) False fun n31 =>
 (Eng.asInt IntKind.u8 (Eng.getC x17.2.1 (0:Nat) (11:Nat)) False fun n32 =>
 (Eng.asInt IntKind.u8 (Eng.getC x17.2.1 (0:Nat) (12:Nat)) False fun n33 =>
 (Eng.asInt IntKind.u8 (Eng.getC x17.2.1 (0:Nat) (13:Nat)) False fun n34 =>
 (Eng.asInt IntKind.u8 (Eng.getC x17.2.1 (0:Nat) (14:Nat)) False fun n35 =>
 (Eng.asInt IntKind.u8 (Eng.getC x17.2.1 (0:Nat) (15:Nat)) False fun n36 =>
 (Eng.asInt IntKind.u8 (Eng.getC x17.2.1 (0:Nat) (16:Nat)) False fun n37 =>
 (Eng.asInt IntKind.u8 (Eng.getC x17.2.1 (0:Nat) (17:Nat)) False fun n38 =>
 (Eng.asInt IntKind.u8 (Eng.getC x17.2.1 (0:Nat) (18:Nat)) False fun n39 =>
 (Eng.asInt IntKind.u8 (Eng.getC x17.2.1 (0:Nat) (19:Nat)) False fun n40 =>
 (if (0:Nat) < List.length x17.2.1 then
 (lt (List.set x17.2.1 (0:Nat) (Eng.setE (List.getD x17.2.1 (0:Nat) Eng.V.bad) (0:Nat) [Eng.V.c (Value.int IntKind.u8 n21),Eng.V.c (Value.int IntKind.u8 n22),Eng.V.c (Value.int IntKind.u8 n23),Eng.V.c (Value.int IntKind.u8 n24),Eng.V.c (Value.int IntKind.u8 n25),Eng.V.c (Value.int IntKind.u8 n26),Eng.V.c (Value.int IntKind.u8 n27),Eng.V.c (Value.int IntKind.u8 n28),Eng.V.c (Value.int IntKind.u8 n29),Eng.V.c (Value.int IntKind.u8 n30),Eng.V.c (Value.int IntKind.u8 n31),Eng.V.c (Value.int IntKind.u8 n32),Eng.V.c (Value.int IntKind.u8 n33),Eng.V.c (Value.int IntKind.u8 n34),Eng.V.c (Value.int IntKind.u8 n35),Eng.V.c (Value.int IntKind.u8 n36),Eng.V.c (Value.int IntKind.u8 n37),Eng.V.c (Value.int IntKind.u8 n38),Eng.V.c (Value.int IntKind.u8 n39),Eng.V.c (Value.int IntKind.u8 n40)])) fun v41 =>
 (Eng.asInt IntKind.u8 (Eng.getC v41 (0:Nat) (0:Nat)) False fun n42 =>
 (Eng.asInt IntKind.u8 (Eng.getC v41 (0:Nat) (1:Nat)) False fun n43 =>
 (Eng.asInt IntKind.u8 (Eng.getC v41 (0:Nat) (2:Nat)) False fun n44 =>
 (Eng.asInt IntKind.u8 (Eng.getC v41 (0:Nat) (3:Nat)) False fun n45 =>
 (Eng.asInt IntKind.u8 (Eng.getC v41 (0:Nat) (4:Nat)) False fun n46 =>
 (Eng.asInt IntKind.u8 (Eng.getC v41 (0:Nat) (5:Nat)) False fun n47 =>
 (Eng.asInt IntKind.u8 (Eng.getC v41 (0:Nat) (6:Nat)) False fun n48 =>
 (Eng.asInt IntKind.u8 (Eng.getC v41 (0:Nat) (7:Nat)) False fun n49 =>
 (Eng.asInt IntKind.u8 (Eng.getC v41 (0:Nat) (8:Nat)) False fun n50 =>
 (Eng.asInt IntKind.u8 (Eng.getC v41 (0:Nat) (9:Nat)) False fun n51 =>
 (Eng.asInt IntKind.u8 (Eng.getC v41 (0:Nat) (10:Nat)) False fun n52 =>
 (Eng.asInt IntKind.u8 (Eng.getC v41 (0:Nat) (11:Nat)) False fun n53 =>
 (Eng.asInt IntKind.u8 (Eng.getC v41 (0:Nat) (12:Nat)) False fun n54 =>
 (Eng.asInt IntKind.u8 (Eng.getC v41 (0:Nat) (13:Nat)) False fun n55 =>
 (Eng.asInt IntKind.u8 (Eng.getC v41 (0:Nat) (14:Nat)) False fun n56 =>
 (Eng.asInt IntKind.u8 (Eng.getC v41 (0:Nat) (15:Nat)) False fun n57 =>
 (Eng.asInt IntKind.u8 (Eng.getC v41 (0:Nat) (16:Nat)) False fun n58 =>
 (Eng.asInt IntKind.u8 (Eng.getC v41 (0:Nat) (17:Nat)) False fun n59 =>
 (Eng.asInt IntKind.u8 (Eng.getC v41 (0:Nat) (18:Nat)) False fun n60 =>
 (Eng.asInt IntKind.u8 (Eng.getC v41 (0:Nat) (19:Nat)) False fun n61 =>
 K (n42,n43,n44,n45,n46,n47,n48,n49,n50,n51,n52,n53,n54,n55,n56,n57,n58,n59,n60,n61,()))))))))))))))))))))))
 else
 False))))))))))))))))))))))
def Lq1y_2p:Lp:=⟨35184372088900,[.trim 35184372088900],pT95,pH96,0⟩
def Lq1y_1 (xq0g:Tq0g) (K:Q91→Prop) (k6:Q92→Prop):(Q93→Prop)→Q93→Prop:=fun k9 x10 =>
 (if decide ((↑(List.length x10.1.2.1):Int) > 0) then
 (if (0 :Int)≤64∧64≤(↑(List.length x10.1.2.1):Int) then
 xq0g (Eng.cutL x10.1.2.1 (0:Nat) (64:Nat)) x10.2.2.1.1 x10.2.2.1.2.1 x10.2.2.1.2.2.1 x10.2.2.1.2.2.2.1 x10.2.2.1.2.2.2.2.1 (fun r11 r12 r13 r14 r15 =>
 (if 0≤(↑(List.length x10.1.2.1):Int)∧(↑(List.length x10.1.2.1):Int)≤(↑(List.length x10.1.2.1):Int) then
 (if (0 :Int)≤64∧64≤(↑(List.length x10.1.2.1):Int) then
 k9 (((),Eng.cutL x10.1.2.1 (64:Nat) (Int.toNat (↑(List.length x10.1.2.1):Int) - (64:Nat)),(),()),x10.2.1,(r11,r12,r13,r14,r15,()),())
 else
 False)
 else
 False))
 else
 False)
 else
 lp (Lq1y_2 K k6 k9) (((),(),0,()),x10.2))
def Lq1y_1p:Lp:=⟨76,[.trim 76,.thin 208,.trim 76],pT97,pH96,0⟩
def Lq1y_0 (xq0g:Tq0g) (K:Q91→Prop):(Q92→Prop)→Q92→Prop:=fun k6 x7 =>
 (if decide (x7.1.2.2.2.1≥0) then
 (if w64 (8 * x7.1.2.2.2.1) < 0 then
 False
 else
 (lt (wu8 (Int.fdiv x7.1.2.2.1 (2 ^ Min.min (Int.toNat (w64 (8 * x7.1.2.2.2.1))) (64:Nat)))) fun v8 =>
 (if x7.2.2.1.2.1 then
 (if Eng.roomOk (List.length x7.2.2.1.1+List.length [Eng.V.c (Value.int IntKind.u8 v8)]) (1:Nat) then
 k6 (((),(),x7.1.2.2.1,w64 (x7.1.2.2.2.1 - 1),()),x7.2.1,(x7.2.2.1.1++[Eng.V.c (Value.int IntKind.u8 v8)],x7.2.2.1.2),())
 else
 False)
 else
 False)))
 else
 lp (Lq1y_1 xq0g K k6) (((),x7.2.2.1.1,(),()),x7.2.1,(1732584193,4023233417,2562383102,271733878,3285377520,()),()))
def Lq1y_0p:Lp:=⟨60,[.trim 60],pT98,pH99,0⟩
def Yq1y (xq04:Tq04) (xq0g:Tq0g) (a0:(List Eng.V)) (K:Q91→Prop):Prop :=
 xq04 a0 (fun r1 r2 r3 =>
 (if r2 then
 (if Eng.roomOk (List.length r1+(1:Nat)) (1:Nat) then
 (lt (w64 (184 - Int.tmod (↑(List.length (r1++[Eng.V.c (Value.int IntKind.u8 128)])):Int) 64)) fun v4 =>
 (if 0≤Int.tmod v4 64∧Int.tmod v4 (64 :Int)≤4398046511104 then
 (if r2 then
 (if Eng.roomOk (List.length (r1++[Eng.V.c (Value.int IntKind.u8 128)])+List.length (List.replicate (Int.toNat (Int.tmod v4 64)) (Eng.ofVal (Value.int IntKind.u8 0)))) (1:Nat) then
 (lt (r1++[Eng.V.c (Value.int IntKind.u8 128)]++List.replicate (Int.toNat (Int.tmod v4 64)) (Eng.ofVal (Value.int IntKind.u8 0))) fun v5 =>
 lp (Lq1y_0 xq0g K) (((),(),wu64 (wu64 (↑(List.length r1):Int) * 8),7,()),[Eng.V.agg [Eng.V.c (Value.int IntKind.u8 0),Eng.V.c (Value.int IntKind.u8 0),Eng.V.c (Value.int IntKind.u8 0),Eng.V.c (Value.int IntKind.u8 0),Eng.V.c (Value.int IntKind.u8 0),Eng.V.c (Value.int IntKind.u8 0),Eng.V.c (Value.int IntKind.u8 0),Eng.V.c (Value.int IntKind.u8 0),Eng.V.c (Value.int IntKind.u8 0),Eng.V.c (Value.int IntKind.u8 0),Eng.V.c (Value.int IntKind.u8 0),Eng.V.c (Value.int IntKind.u8 0),Eng.V.c (Value.int IntKind.u8 0),Eng.V.c (Value.int IntKind.u8 0),Eng.V.c (Value.int IntKind.u8 0),Eng.V.c (Value.int IntKind.u8 0),Eng.V.c (Value.int IntKind.u8 0),Eng.V.c (Value.int IntKind.u8 0),Eng.V.c (Value.int IntKind.u8 0),Eng.V.c (Value.int IntKind.u8 0)]],(v5,r2,r3),()))
 else
 False)
 else
 False)
 else
 False))
 else
 False)
 else
 False))
def Xq1y:Tq1y:=Yq1y Xq04 Xq0g
def Jq1y (X:Tq1y):Inst:=mkI 59 pL75 .nil pL100 .nil X
def Iq1y:Inst:=Jq1y Xq1y
theorem Eq1y (xq04:Tq04) (xq0g:Tq0g):EqF Tryz.prog 62 gives Tryz.f59 [Jq04 xq04,Jq0g xq0g] [Lq1y_0p,Lq1y_1p,Lq1y_2p] (Jq1y (Yq1y xq04 xq0g)):=fun x y K=>by kernel_rfl
theorem Iq1y_ok:InstOk Tryz.prog G.1 Iq1y:=iok (gives:=gives) [Lq1y_0p,Lq1y_1p,Lq1y_2p] (okCons Iq04_ok (okCons Iq0g_ok okNil)) 62 follows Tryz.func59 (by kernel_rfl) (fun x=>by kernel_rfl) (Eq1y Xq04 Xq0g)
abbrev Tq0w:Type:=(List Eng.V)→(Q91→Prop)→Prop
def Lq0w_1 (xjoin:Tjoin) (K:Q91→Prop) (k1:Q101→Prop):(Q102→Prop)→Q102→Prop:=fun k4 x5 =>
 (if decide (x5.1.2.2.2.2.2.2.2.2.2.1 < x5.1.2.2.2.2.2.2.2.2.1) then
 (if 0≤x5.1.2.2.2.2.2.2.2.2.2.1∧x5.1.2.2.2.2.2.2.2.2.2.1 < (↑(List.length x5.1.2.2.2.2.2.2.2.1):Int) then
 (Eng.asStr (Eng.getC x5.1.2.2.2.2.2.2.2.1 (Int.toNat x5.1.2.2.2.2.2.2.2.2.2.1) (0:Nat)) False fun t6 =>
 (Eng.asSl (1:Nat) (Eng.getC x5.1.2.2.2.2.2.2.2.1 (Int.toNat x5.1.2.2.2.2.2.2.2.2.2.1) (1:Nat)) False fun l7 l8 =>
 (Eng.asSl (1:Nat) (Eng.getC x5.1.2.2.2.2.2.2.2.1 (Int.toNat x5.1.2.2.2.2.2.2.2.2.2.1) (2:Nat)) False fun l9 l10 =>
 (Eng.asBool (Eng.getC x5.1.2.2.2.2.2.2.2.1 (Int.toNat x5.1.2.2.2.2.2.2.2.2.2.1) (3:Nat)) False fun b11 =>
 (if (ByteArray.toList t6 == ByteArray.toList x5.1.2.2.2.1) then
 xjoin l8 (ByteArray.mk #[]) (fun r12 =>
 (if Eng.roomOk (List.length x5.2.2.2.1+List.length [Eng.V.sl (1:Nat) false (Eng.bytesV r12)]) (24:Nat) then
 k4 ((x5.1.1,(),(),x5.1.2.2.2.1,(),x5.1.2.2.2.2.2.1,x5.1.2.2.2.2.2.2.1,x5.1.2.2.2.2.2.2.2.1,x5.1.2.2.2.2.2.2.2.2.1,w64 (x5.1.2.2.2.2.2.2.2.2.2.1+1),()),x5.2.1,x5.2.2.1,x5.2.2.2.1++[Eng.V.sl (1:Nat) false (Eng.bytesV r12)],())
 else
 False))
 else
 k4 ((x5.1.1,(),(),x5.1.2.2.2.1,(),x5.1.2.2.2.2.2.1,x5.1.2.2.2.2.2.2.1,x5.1.2.2.2.2.2.2.2.1,x5.1.2.2.2.2.2.2.2.2.1,w64 (x5.1.2.2.2.2.2.2.2.2.2.1+1),()),x5.2))))))
 else
 False)
 else
 k1 ((x5.1.1,(),(),(),x5.1.2.2.2.2.2.1,w64 (x5.1.2.2.2.2.2.2.1+1),()),x5.2))
def Lq0w_1p:Lp:=⟨116525,[.trim 116525],pT103,pH104,0⟩
def Lq0w_0 (xjoin:Tjoin) (xq1y:Tq1y) (K:Q91→Prop):(Q101→Prop)→Q101→Prop:=fun k1 x2 =>
 (if decide (x2.1.2.2.2.2.2.1 < x2.1.2.2.2.2.1) then
 (if 0≤x2.1.2.2.2.2.2.1∧x2.1.2.2.2.2.2.1 < (↑(List.length x2.2.2.1):Int) then
 (Eng.asStr (Eng.getC x2.2.2.1 (Int.toNat x2.1.2.2.2.2.2.1) (0:Nat)) False fun t3 =>
 lp (Lq0w_1 xjoin K k1) ((x2.1.1,(),(),t3,(),x2.1.2.2.2.2.1,x2.1.2.2.2.2.2.1,x2.1.1,(↑(List.length x2.1.1):Int),0,()),x2.2))
 else
 False)
 else
 xq1y x2.2.2.2.1 (fun r13 =>
 (if (0:Nat) < List.length x2.2.1 then
 (lt (List.set x2.2.1 (0:Nat) (Eng.setE (List.getD x2.2.1 (0:Nat) Eng.V.bad) (0:Nat) [Eng.V.c (Value.int IntKind.u8 r13.1),Eng.V.c (Value.int IntKind.u8 r13.2.1),Eng.V.c (Value.int IntKind.u8 r13.2.2.1),Eng.V.c (Value.int IntKind.u8 r13.2.2.2.1),Eng.V.c (Value.int IntKind.u8 r13.2.2.2.2.1),Eng.V.c (Value.int IntKind.u8 r13.2.2.2.2.2.1),Eng.V.c (Value.int IntKind.u8 r13.2.2.2.2.2.2.1),Eng.V.c (Value.int IntKind.u8 r13.2.2.2.2.2.2.2.1),Eng.V.c (Value.int IntKind.u8 r13.2.2.2.2.2.2.2.2.1),Eng.V.c (Value.int IntKind.u8 r13.2.2.2.2.2.2.2.2.2.1),Eng.V.c (Value.int IntKind.u8 r13.2.2.2.2.2.2.2.2.2.2.1),Eng.V.c (Value.int IntKind.u8 r13.2.2.2.2.2.2.2.2.2.2.2.1),Eng.V.c (Value.int IntKind.u8 r13.2.2.2.2.2.2.2.2.2.2.2.2.1),Eng.V.c (Value.int IntKind.u8 r13.2.2.2.2.2.2.2.2.2.2.2.2.2.1),Eng.V.c (Value.int IntKind.u8 r13.2.2.2.2.2.2.2.2.2.2.2.2.2.2.1),Eng.V.c (Value.int IntKind.u8 r13.2.2.2.2.2.2.2.2.2.2.2.2.2.2.2.1),Eng.V.c (Value.int IntKind.u8 r13.2.2.2.2.2.2.2.2.2.2.2.2.2.2.2.2.1),Eng.V.c (Value.int IntKind.u8 r13.2.2.2.2.2.2.2.2.2.2.2.2.2.2.2.2.2.1),Eng.V.c (Value.int IntKind.u8 r13.2.2.2.2.2.2.2.2.2.2.2.2.2.2.2.2.2.2.1),Eng.V.c (Value.int IntKind.u8 r13.2.2.2.2.2.2.2.2.2.2.2.2.2.2.2.2.2.2.2.1)])) fun v14 =>
 (Eng.asInt IntKind.u8 (Eng.getC v14 (0:Nat) (0:Nat)) False fun n15 =>
 (Eng.asInt IntKind.u8 (Eng.getC v14 (0:Nat) (1:Nat)) False fun n16 =>
 (Eng.asInt IntKind.u8 (Eng.getC v14 (0:Nat) (2:Nat)) False fun n17 =>
 (Eng.asInt IntKind.u8 (Eng.getC v14 (0:Nat) (3:Nat)) False fun n18 =>
 (Eng.asInt IntKind.u8 (Eng.getC v14 (0:Nat) (4:Nat)) False fun n19 =>
 (Eng.asInt IntKind.u8 (Eng.getC v14 (0:Nat) (5:Nat)) False fun n20 =>
 (Eng.asInt IntKind.u8 (Eng.getC v14 (0:Nat) (6:Nat)) False fun n21 =>
 (Eng.asInt IntKind.u8 (Eng.getC v14 (0:Nat) (7:Nat)) False fun n22 =>
 (Eng.asInt IntKind.u8 (Eng.getC v14 (0:Nat) (8:Nat)) False fun n23 =>
 (Eng.asInt IntKind.u8 (Eng.getC v14 (0:Nat) (9:Nat)) False fun n24 =>
 (Eng.asInt IntKind.u8 (Eng.getC v14 (0:Nat) (10:Nat)) False fun n25 =>
 (Eng.asInt IntKind.u8 (Eng.getC v14 (0:Nat) (11:Nat)) False fun n26 =>
 (Eng.asInt IntKind.u8 (Eng.getC v14 (0:Nat) (12:Nat)) False fun n27 =>
 (Eng.asInt IntKind.u8 (Eng.getC v14 (0:Nat) (13:Nat)) False fun n28 =>
 (Eng.asInt IntKind.u8 (Eng.getC v14 (0:Nat) (14:Nat)) False fun n29 =>
 (Eng.asInt IntKind.u8 (Eng.getC v14 (0:Nat) (15:Nat)) False fun n30 =>
 (Eng.asInt IntKind.u8 (Eng.getC v14 (0:Nat) (16:Nat)) False fun n31 =>
 (Eng.asInt IntKind.u8 (Eng.getC v14 (0:Nat) (17:Nat)) False fun n32 =>
 (Eng.asInt IntKind.u8 (Eng.getC v14 (0:Nat) (18:Nat)) False fun n33 =>
 (Eng.asInt IntKind.u8 (Eng.getC v14 (0:Nat) (19:Nat)) False fun n34 =>
 K (n15,n16,n17,n18,n19,n20,n21,n22,n23,n24,n25,n26,n27,n28,n29,n30,n31,n32,n33,n34,()))))))))))))))))))))))
 else
 False)))
def Lq0w_0p:Lp:=⟨1805,[.trim 1805,.fat 3 1 640,.trim 1805],pT105,pH104,0⟩
def Yq0w (xjoin:Tjoin) (xq1y:Tq1y) (a0:(List Eng.V)) (K:Q91→Prop):Prop :=
 lp (Lq0w_0 xjoin xq1y K) ((a0,(),(),(),3,0,()),[Eng.V.agg [Eng.V.c (Value.int IntKind.u8 0),Eng.V.c (Value.int IntKind.u8 0),Eng.V.c (Value.int IntKind.u8 0),Eng.V.c (Value.int IntKind.u8 0),Eng.V.c (Value.int IntKind.u8 0),Eng.V.c (Value.int IntKind.u8 0),Eng.V.c (Value.int IntKind.u8 0),Eng.V.c (Value.int IntKind.u8 0),Eng.V.c (Value.int IntKind.u8 0),Eng.V.c (Value.int IntKind.u8 0),Eng.V.c (Value.int IntKind.u8 0),Eng.V.c (Value.int IntKind.u8 0),Eng.V.c (Value.int IntKind.u8 0),Eng.V.c (Value.int IntKind.u8 0),Eng.V.c (Value.int IntKind.u8 0),Eng.V.c (Value.int IntKind.u8 0),Eng.V.c (Value.int IntKind.u8 0),Eng.V.c (Value.int IntKind.u8 0),Eng.V.c (Value.int IntKind.u8 0),Eng.V.c (Value.int IntKind.u8 0)]],[Eng.V.c (Value.string (ByteArray.mk #[(35:UInt8),(36:UInt8)])),Eng.V.c (Value.string (ByteArray.mk #[(35:UInt8),(64:UInt8)])),Eng.V.c (Value.string (ByteArray.mk #[]))],[],())
def Xq0w:Tq0w:=Yq0w Xjoin Xq1y
def Jq0w (X:Tq0w):Inst:=mkI 26 pL106 .nil pL100 .nil X
def Iq0w:Inst:=Jq0w Xq0w
theorem Eq0w (xjoin:Tjoin) (xq1y:Tq1y):EqF Tryz.prog 35 gives Tryz.f26 [Jjoin xjoin,Jq1y xq1y] [Lq0w_0p,Lq0w_1p] (Jq0w (Yq0w xjoin xq1y)):=fun x y K=>by kernel_rfl
theorem Iq0w_ok:InstOk Tryz.prog G.1 Iq0w:=iok (gives:=gives) [Lq0w_0p,Lq0w_1p] (okCons Ijoin_ok (okCons Iq1y_ok okNil)) 35 follows Tryz.func26 (by kernel_rfl) (fun x=>by kernel_rfl) (Eq0w Xjoin Xq1y)
abbrev Tq1a:Type:=Q91→(Q37→Prop)→Prop
def Lq1a_0 (K:Q37→Prop):(Q107→Prop)→Q107→Prop:=fun k1 x2 =>
 (if decide (x2.1.2.2.1 < 20) then
 (if 0≤x2.1.2.2.1∧x2.1.2.2.1 < 20 then
 (Eng.asInt IntKind.u8 ([Eng.V.c (Value.int IntKind.u8 x2.1.2.1.1),Eng.V.c (Value.int IntKind.u8 x2.1.2.1.2.1),Eng.V.c (Value.int IntKind.u8 x2.1.2.1.2.2.1),Eng.V.c (Value.int IntKind.u8 x2.1.2.1.2.2.2.1),Eng.V.c (Value.int IntKind.u8 x2.1.2.1.2.2.2.2.1),Eng.V.c (Value.int IntKind.u8 x2.1.2.1.2.2.2.2.2.1),Eng.V.c (Value.int IntKind.u8 x2.1.2.1.2.2.2.2.2.2.1),Eng.V.c (Value.int IntKind.u8 x2.1.2.1.2.2.2.2.2.2.2.1),Eng.V.c (Value.int IntKind.u8 x2.1.2.1.2.2.2.2.2.2.2.2.1),Eng.V.c (Value.int IntKind.u8 x2.1.2.1.2.2.2.2.2.2.2.2.2.1),Eng.V.c (Value.int IntKind.u8 x2.1.2.1.2.2.2.2.2.2.2.2.2.2.1),Eng.V.c (Value.int IntKind.u8 x2.1.2.1.2.2.2.2.2.2.2.2.2.2.2.1),Eng.V.c (Value.int IntKind.u8 x2.1.2.1.2.2.2.2.2.2.2.2.2.2.2.2.1),Eng.V.c (Value.int IntKind.u8 x2.1.2.1.2.2.2.2.2.2.2.2.2.2.2.2.2.1),Eng.V.c (Value.int IntKind.u8 x2.1.2.1.2.2.2.2.2.2.2.2.2.2.2.2.2.2.1),Eng.V.c (Value.int IntKind.u8 x2.1.2.1.2.2.2.2.2.2.2.2.2.2.2.2.2.2.2.1),Eng.V.c (Value.int IntKind.u8 x2.1.2.1.2.2.2.2.2.2.2.2.2.2.2.2.2.2.2.2.1),Eng.V.c (Value.int IntKind.u8 x2.1.2.1.2.2.2.2.2.2.2.2.2.2.2.2.2.2.2.2.2.1),Eng.V.c (Value.int IntKind.u8 x2.1.2.1.2.2.2.2.2.2.2.2.2.2.2.2.2.2.2.2.2.2.1),Eng.V.c (Value.int IntKind.u8 x2.1.2.1.2.2.2.2.2.2.2.2.2.2.2.2.2.2.2.2.2.2.2.1)][Int.toNat x2.1.2.2.1 * (1:Nat)]?) False fun n3 =>
 (if 0≤w64 (Int.tdiv x2.1.2.2.1 4)∧w64 (Int.tdiv x2.1.2.2.1 4) < 5 then
 (Eng.asInt IntKind.u32 (Eng.getC x2.2.1 (0:Nat) ((0:Nat)+Int.toNat (w64 (Int.tdiv x2.1.2.2.1 4)) * (1:Nat))) False fun n4 =>
 (lt (wu32 (↑(BitVec.toNat (BitVec.ofInt (32:Nat) (wu32 (n4 * 256)) ||| BitVec.ofInt (32:Nat) (wu32 n3))):Int)) fun v5 =>
 (if 0≤w64 (Int.tdiv x2.1.2.2.1 4)∧w64 (Int.tdiv x2.1.2.2.1 4) < 5 then
 (if (0:Nat) < List.length x2.2.1 then
 (if (0:Nat)+Int.toNat (w64 (Int.tdiv x2.1.2.2.1 4)) * (1:Nat)+List.length [Eng.V.c (Value.int IntKind.u32 v5)]≤(5:Nat) then
 (lt (List.set x2.2.1 (0:Nat) (Eng.setE (List.getD x2.2.1 (0:Nat) Eng.V.bad) ((0:Nat)+Int.toNat (w64 (Int.tdiv x2.1.2.2.1 4)) * (1:Nat)) [Eng.V.c (Value.int IntKind.u32 v5)])) fun v6 =>
 k1 (((),x2.1.2.1,w64 (x2.1.2.2.1+1),()),v6,()))
 else
 False)
 else
 False)
 else
 False)))
 else
 False))
 else
 False)
 else
 (Eng.asInt IntKind.u32 (Eng.getC x2.2.1 (0:Nat) (0:Nat)) False fun n7 =>
 (Eng.asInt IntKind.u32 (Eng.getC x2.2.1 (0:Nat) (1:Nat)) False fun n8 =>
 (Eng.asInt IntKind.u32 (Eng.getC x2.2.1 (0:Nat) (2:Nat)) False fun n9 =>
 (Eng.asInt IntKind.u32 (Eng.getC x2.2.1 (0:Nat) (3:Nat)) False fun n10 =>
 (Eng.asInt IntKind.u32 (Eng.getC x2.2.1 (0:Nat) (4:Nat)) False fun n11 =>
 (if (0:Nat) < List.length x2.2.1 then
 (lt (List.set x2.2.1 (0:Nat) (Eng.setE (List.getD x2.2.1 (0:Nat) Eng.V.bad) (0:Nat) [Eng.V.c (Value.int IntKind.u32 n7),Eng.V.c (Value.int IntKind.u32 n8),Eng.V.c (Value.int IntKind.u32 n9),Eng.V.c (Value.int IntKind.u32 n10),Eng.V.c (Value.int IntKind.u32 n11)])) fun v12 =>
 (Eng.asInt IntKind.u32 (Eng.getC v12 (0:Nat) (0:Nat)) False fun n13 =>
 (Eng.asInt IntKind.u32 (Eng.getC v12 (0:Nat) (1:Nat)) False fun n14 =>
 (Eng.asInt IntKind.u32 (Eng.getC v12 (0:Nat) (2:Nat)) False fun n15 =>
 (Eng.asInt IntKind.u32 (Eng.getC v12 (0:Nat) (3:Nat)) False fun n16 =>
 (Eng.asInt IntKind.u32 (Eng.getC v12 (0:Nat) (4:Nat)) False fun n17 =>
 K (n13,n14,n15,n16,n17,())))))))
 else
 False)))))))
def Lq1a_0p:Lp:=⟨100,[.trim 100],pT108,pH109,0⟩
def Yq1a (a0:Q91) (K:Q37→Prop):Prop :=
 lp (Lq1a_0 K) (((),a0,0,()),[Eng.V.agg [Eng.V.c (Value.int IntKind.u32 0),Eng.V.c (Value.int IntKind.u32 0),Eng.V.c (Value.int IntKind.u32 0),Eng.V.c (Value.int IntKind.u32 0),Eng.V.c (Value.int IntKind.u32 0)]],())
def Xq1a:Tq1a:=Yq1a
def Jq1a (X:Tq1a):Inst:=mkI 25 pL100 .nil pL110 .nil X
def Iq1a:Inst:=Jq1a Xq1a
theorem Eq1a:EqF Tryz.prog 23 gives Tryz.f25 [] [Lq1a_0p] (Jq1a (Yq1a)):=fun x y K=>by kernel_rfl
theorem Iq1a_ok:InstOk Tryz.prog G.1 Iq1a:=iok (gives:=gives) [Lq1a_0p] okNil 23 follows Tryz.func25 (by kernel_rfl) (fun x=>by kernel_rfl) (Eq1a)
end Go.Proofs.YtdjldmolhkkipaaGreatDoor
end
section
set_option linter.unusedVariables false
set_option linter.unusedSimpArgs false
namespace Go.Proofs.YtdjldmolhkkipaaGreatDoor
open Go Go.Proofs.YtdjldmolhkkipaaGreatDoor.Eng
set_option maxRecDepth 100000
set_option maxHeartbeats 4000000
variable {G:Gs}
abbrev Tq16:Type:=ByteArray→(Q58→Q67→(List Eng.V)→Bool→Bool→Prop)→Prop
def Lq16_0 (xq0j:Tq0j) (xq0s:Tq0s) (xq1j:Tq1j) (xq11:Tq11) (xq0y:Tq0y) (xq1v:Tq1v) (xq0w:Tq0w) (xq1a:Tq1a) (K:Q58→Q67→(List Eng.V)→Bool→Bool→Prop):(Q111→Prop)→Q111→Prop:=fun k4 x5 =>
 (if decide (x5.1.2.2.2.2.2.2.2.2.1 < x5.1.2.2.2.2.2.2.2.1) then
 (if 0≤x5.1.2.2.2.2.2.2.2.2.1∧x5.1.2.2.2.2.2.2.2.2.1 < (↑(List.length x5.2.2.2.2.2.1.1):Int) then
 (Eng.asStr (Eng.getC x5.2.2.2.2.2.1.1 (Int.toNat x5.1.2.2.2.2.2.2.2.2.1) (0:Nat)) False fun t6 =>
 (Eng.asSl (1:Nat) (Eng.getC x5.2.2.2.2.2.1.1 (Int.toNat x5.1.2.2.2.2.2.2.2.2.1) (1:Nat)) False fun l7 l8 =>
 (Eng.asSl (1:Nat) (Eng.getC x5.2.2.2.2.2.1.1 (Int.toNat x5.1.2.2.2.2.2.2.2.2.1) (2:Nat)) False fun l9 l10 =>
 (Eng.asBool (Eng.getC x5.2.2.2.2.2.1.1 (Int.toNat x5.1.2.2.2.2.2.2.2.2.1) (3:Nat)) False fun b11 =>
 xq0j (w64 (x5.1.2.2.2.2.2.2.2.2.1+1)) (t6,l8,l10,b11,()) x5.2.2.2.1.1 x5.2.2.2.1.2.1 x5.2.2.2.1.2.2.1 x5.2.2.2.1.2.2.2.1 x5.2.2.2.1.2.2.2.2.1 x5.2.2.2.2.1 (fun r12 r13 r14 r15 r16 r17 r18 r19 r20 =>
 (if (r12 != 0) then
 xq0s (w64 (x5.1.2.2.2.2.2.2.2.2.1+1)) r12 (fun r21 r22 r23 r24 r25 =>
 K ((),r21.2) r22 r23 r24 r25)
 else
 k4 ((x5.1.1,(),(),((),()),(),(),(),x5.1.2.2.2.2.2.2.2.1,w64 (x5.1.2.2.2.2.2.2.2.2.1+1),()),x5.2.1,x5.2.2.1,(r17,r13,r14,r15,r16,(),()),r20,x5.2.2.2.2.2)))))))
 else
 False)
 else
 (if (!x5.2.2.2.1.2.2.2.2.1) then
 xq0s (w64 ((↑(List.length x5.2.2.2.2.2.1.1):Int)+1)) 2 (fun r26 r27 r28 r29 r30 =>
 K ((),r26.2) r27 r28 r29 r30)
 else
 (Eng.asMpI IntKind.i64 (Eng.mpGet (ByteArray.mk #[(35:UInt8),(64:UInt8)]) x5.2.2.2.2.1) False fun n31 n32 =>
 (if decide (n31 > 0) then
 (if 0≤w64 (n31 - 1)∧w64 (n31 - 1) < (↑(List.length x5.2.2.2.2.2.1.1):Int) then
 (Eng.asSl (1:Nat) (Eng.getC x5.2.2.2.2.2.1.1 (Int.toNat (w64 (n31 - 1))) (2:Nat)) False fun l33 l34 =>
 (if (0 :Int)≤0∧0 < (↑(List.length l34):Int) then
 (Eng.asInt IntKind.i64 (Eng.getC l34 (0:Nat) (0:Nat)) False fun n35 =>
 xq1j n35 (fun r36 r37 =>
 xq11 (x5.2.2.2.1.1,true,r36,()) (fun r38 =>
 (if (!r38) then
 xq0s n31 9 (fun r39 r40 r41 r42 r43 =>
 K ((),r39.2) r40 r41 r42 r43)
 else
 (Eng.asMpI IntKind.i64 (Eng.mpGet (ByteArray.mk #[(35:UInt8),(104:UInt8)]) x5.2.2.2.2.1) False fun n44 n45 =>
 (if decide (n44 > 0) then
 xq0y x5.1.1 (fun r46 r47 r48 =>
 (if 0≤w64 (n44 - 1)∧w64 (n44 - 1) < (↑(List.length r46):Int) then
 (Eng.asStr (Eng.getC r46 (Int.toNat (w64 (n44 - 1))) (0:Nat)) False fun t49 =>
 (if 0≤(↑(ByteArray.size t49):Int)∧(↑(ByteArray.size t49):Int)≤(↑(ByteArray.size t49):Int) then
 (if (0 :Int)≤2∧2≤(↑(ByteArray.size t49):Int) then
 xq1v (ByteArray.extract t49 (2:Nat) (Int.toNat (↑(ByteArray.size t49):Int))) (fun r50 r51 =>
 xq0w x5.2.2.2.2.2.1.1 (fun r52 =>
 xq1a r52 (fun r53 =>
 (lt (!(r50.1 == r53.1 && (r50.2.1 == r53.2.1 && (r50.2.2.1 == r53.2.2.1 && (r50.2.2.2.1 == r53.2.2.2.1 && (r50.2.2.2.2.1 == r53.2.2.2.2.1 && true)))))) fun v54 =>
 (if v54 then
 xq0s n44 3 (fun r55 r56 r57 r58 r59 =>
 K ((),r55.2) r56 r57 r58 r59)
 else
 K ((),true,r36,()) (0,0,()) x5.2.2.2.1.1 false true)))))
 else
 False)
 else
 False))
 else
 False))
 else
 K ((),true,r36,()) (0,0,()) x5.2.2.2.1.1 false true))))))
 else
 False))
 else
 False)
 else
 (Eng.asMpI IntKind.i64 (Eng.mpGet (ByteArray.mk #[(35:UInt8),(104:UInt8)]) x5.2.2.2.2.1) False fun n60 n61 =>
 (if decide (n60 > 0) then
 xq0y x5.1.1 (fun r62 r63 r64 =>
 (if 0≤w64 (n60 - 1)∧w64 (n60 - 1) < (↑(List.length r62):Int) then
 (Eng.asStr (Eng.getC r62 (Int.toNat (w64 (n60 - 1))) (0:Nat)) False fun t65 =>
 (if 0≤(↑(ByteArray.size t65):Int)∧(↑(ByteArray.size t65):Int)≤(↑(ByteArray.size t65):Int) then
 (if (0 :Int)≤2∧2≤(↑(ByteArray.size t65):Int) then
 xq1v (ByteArray.extract t65 (2:Nat) (Int.toNat (↑(ByteArray.size t65):Int))) (fun r66 r67 =>
 xq0w x5.2.2.2.2.2.1.1 (fun r68 =>
 xq1a r68 (fun r69 =>
 (lt (!(r66.1 == r69.1 && (r66.2.1 == r69.2.1 && (r66.2.2.1 == r69.2.2.1 && (r66.2.2.2.1 == r69.2.2.2.1 && (r66.2.2.2.2.1 == r69.2.2.2.2.1 && true)))))) fun v70 =>
 (if v70 then
 xq0s n60 3 (fun r71 r72 r73 r74 r75 =>
 K ((),r71.2) r72 r73 r74 r75)
 else
 K ((),x5.2.2.2.1.2.1,x5.2.2.2.1.2.2.1,()) (0,0,()) x5.2.2.2.1.1 false true)))))
 else
 False)
 else
 False))
 else
 False))
 else
 K ((),x5.2.2.2.1.2.1,x5.2.2.2.1.2.2.1,()) (0,0,()) x5.2.2.2.1.1 false true))))))
def Lq16_0p:Lp:=⟨1835133,[.trim 1835133,.thin 512,.trim 1835133,.ren 513 288],pT112,pH113,0⟩
def Yq16 (xq18:Tq18) (xq0j:Tq0j) (xq0s:Tq0s) (xq1j:Tq1j) (xq11:Tq11) (xq0y:Tq0y) (xq1v:Tq1v) (xq0w:Tq0w) (xq1a:Tq1a) (a0:ByteArray) (K:Q58→Q67→(List Eng.V)→Bool→Bool→Prop):Prop :=
 xq18 a0 (fun r1 r2 r3 =>
 lp (Lq16_0 xq0j xq0s xq1j xq11 xq0y xq1v xq0w xq1a K) ((a0,(),(),((),()),(),(),(),(↑(List.length r1):Int),0,()),([],false,0,()),(0,0,()),([],false,0,0,false,(),()),[],(r1,r2,r3),()))
def Xq16:Tq16:=Yq16 Xq18 Xq0j Xq0s Xq1j Xq11 Xq0y Xq1v Xq0w Xq1a
def Jq16 (X:Tq16):Inst:=mkI 7 pL0 .nil pL68 pH49 X
def Iq16:Inst:=Jq16 Xq16
theorem Eq16 (xq18:Tq18) (xq0j:Tq0j) (xq0s:Tq0s) (xq1j:Tq1j) (xq11:Tq11) (xq0y:Tq0y) (xq1v:Tq1v) (xq0w:Tq0w) (xq1a:Tq1a):EqF Tryz.prog 108 gives Tryz.f7 [Jq18 xq18,Jq0j xq0j,Jq0s xq0s,Jq1j xq1j,Jq11 xq11,Jq0y xq0y,Jq1v xq1v,Jq0w xq0w,Jq1a xq1a] [Lq16_0p] (Jq16 (Yq16 xq18 xq0j xq0s xq1j xq11 xq0y xq1v xq0w xq1a)):=fun x y K=>by kernel_rfl
theorem Iq16_ok:InstOk Tryz.prog G.1 Iq16:=iok (gives:=gives) [Lq16_0p] (okCons Iq18_ok (okCons Iq0j_ok (okCons Iq0s_ok (okCons Iq1j_ok (okCons Iq11_ok (okCons Iq0y_ok (okCons Iq1v_ok (okCons Iq0w_ok (okCons Iq1a_ok okNil))))))))) 108 follows Tryz.func7 (by kernel_rfl) (fun x=>by kernel_rfl) (Eq16 Xq18 Xq0j Xq0s Xq1j Xq11 Xq0y Xq1v Xq0w Xq1a)
abbrev Tq21:Type:=Int→(Int→Bool→Prop)→Prop
def Yq21 (xq20:Tq20) (a0:Int) (K:Int→Bool→Prop):Prop :=
 xq20 a0 2208988800 (fun r1 r2 =>
 (if (!r2) then
 K 0 false
 else
 (if decide (r1 < 0) then
 K 0 false
 else
 K r1 true)))
def Xq21:Tq21:=Yq21 Xq20
def Jq21 (X:Tq21):Inst:=mkI 35 pL2 .nil pL21 .nil X
def Iq21:Inst:=Jq21 Xq21
theorem Eq21 (xq20:Tq20):EqF Tryz.prog 18 gives Tryz.f35 [Jq20 xq20] [] (Jq21 (Yq21 xq20)):=fun x y K=>by kernel_rfl
theorem Iq21_ok:InstOk Tryz.prog G.1 Iq21:=iok (gives:=gives) [] (okCons Iq20_ok okNil) 18 follows Tryz.func35 (by kernel_rfl) (fun x=>by kernel_rfl) (Eq21 Xq20)
abbrev Tq17:Type:=Int→Int→(ByteArray→Prop)→Prop
def Yq17 (xq21:Tq21) (xitoa:Titoa) (a0:Int) (a1:Int) (K:ByteArray→Prop):Prop :=
 xq21 a0 (fun r2 r3 =>
 xitoa r2 (fun r4 =>
 (if (↑(ByteArray.size r4+(1:Nat)):Int) > 9223372036854775807 then
 False
 else
 xitoa a1 (fun r5 =>
 (if (↑(ByteArray.size (r4++ByteArray.mk #[(9:UInt8)])+ByteArray.size r5):Int) > 9223372036854775807 then
 False
 else
 (lt (r4++ByteArray.mk #[(9:UInt8)]++r5) fun v6 =>
 (if (↑(ByteArray.size v6+(1:Nat)):Int) > 9223372036854775807 then
 False
 else
 K (v6++ByteArray.mk #[(10:UInt8)]))))))))
def Xq17:Tq17:=Yq17 Xq21 Xitoa
def Jq17 (X:Tq17):Inst:=mkI 36 pL20 .nil pL0 .nil X
def Iq17:Inst:=Jq17 Xq17
theorem Eq17 (xq21:Tq21) (xitoa:Titoa):EqF Tryz.prog 19 gives Tryz.f36 [Jq21 xq21,Jitoa xitoa] [] (Jq17 (Yq17 xq21 xitoa)):=fun x y K=>by kernel_rfl
theorem Iq17_ok:InstOk Tryz.prog G.1 Iq17:=iok (gives:=gives) [] (okCons Iq21_ok (okCons Iitoa_ok okNil)) 19 follows Tryz.func36 (by kernel_rfl) (fun x=>by kernel_rfl) (Eq17 Xq21 Xitoa)
abbrev Tq19:Type:=ByteArray→(Q91→Prop)→Prop
def Yq19 (xq18:Tq18) (xq0w:Tq0w) (a0:ByteArray) (K:Q91→Prop):Prop :=
 xq18 a0 (fun r1 r2 r3 =>
 xq0w r1 (fun r4 =>
 K r4))
def Xq19:Tq19:=Yq19 Xq18 Xq0w
def Jq19 (X:Tq19):Inst:=mkI 12 pL0 .nil pL100 .nil X
def Iq19:Inst:=Jq19 Xq19
theorem Eq19 (xq18:Tq18) (xq0w:Tq0w):EqF Tryz.prog 6 gives Tryz.f12 [Jq18 xq18,Jq0w xq0w] [] (Jq19 (Yq19 xq18 xq0w)):=fun x y K=>by kernel_rfl
theorem Iq19_ok:InstOk Tryz.prog G.1 Iq19:=iok (gives:=gives) [] (okCons Iq18_ok (okCons Iq0w_ok okNil)) 6 follows Tryz.func12 (by kernel_rfl) (fun x=>by kernel_rfl) (Eq19 Xq18 Xq0w)
abbrev Tq24:Type:=Q91→(ByteArray→Prop)→Prop
def Lq24_0 (K:ByteArray→Prop):(Q114→Prop)→Q114→Prop:=fun k1 x2 =>
 (if decide (x2.1.2.2.2.1 < 20) then
 (if 0≤x2.1.2.2.2.1∧x2.1.2.2.2.1 < 20 then
 (Eng.asInt IntKind.u8 ([Eng.V.c (Value.int IntKind.u8 x2.1.2.2.1.1),Eng.V.c (Value.int IntKind.u8 x2.1.2.2.1.2.1),Eng.V.c (Value.int IntKind.u8 x2.1.2.2.1.2.2.1),Eng.V.c (Value.int IntKind.u8 x2.1.2.2.1.2.2.2.1),Eng.V.c (Value.int IntKind.u8 x2.1.2.2.1.2.2.2.2.1),Eng.V.c (Value.int IntKind.u8 x2.1.2.2.1.2.2.2.2.2.1),Eng.V.c (Value.int IntKind.u8 x2.1.2.2.1.2.2.2.2.2.2.1),Eng.V.c (Value.int IntKind.u8 x2.1.2.2.1.2.2.2.2.2.2.2.1),Eng.V.c (Value.int IntKind.u8 x2.1.2.2.1.2.2.2.2.2.2.2.2.1),Eng.V.c (Value.int IntKind.u8 x2.1.2.2.1.2.2.2.2.2.2.2.2.2.1),Eng.V.c (Value.int IntKind.u8 x2.1.2.2.1.2.2.2.2.2.2.2.2.2.2.1),Eng.V.c (Value.int IntKind.u8 x2.1.2.2.1.2.2.2.2.2.2.2.2.2.2.2.1),Eng.V.c (Value.int IntKind.u8 x2.1.2.2.1.2.2.2.2.2.2.2.2.2.2.2.2.1),Eng.V.c (Value.int IntKind.u8 x2.1.2.2.1.2.2.2.2.2.2.2.2.2.2.2.2.2.1),Eng.V.c (Value.int IntKind.u8 x2.1.2.2.1.2.2.2.2.2.2.2.2.2.2.2.2.2.2.1),Eng.V.c (Value.int IntKind.u8 x2.1.2.2.1.2.2.2.2.2.2.2.2.2.2.2.2.2.2.2.1),Eng.V.c (Value.int IntKind.u8 x2.1.2.2.1.2.2.2.2.2.2.2.2.2.2.2.2.2.2.2.2.1),Eng.V.c (Value.int IntKind.u8 x2.1.2.2.1.2.2.2.2.2.2.2.2.2.2.2.2.2.2.2.2.2.1),Eng.V.c (Value.int IntKind.u8 x2.1.2.2.1.2.2.2.2.2.2.2.2.2.2.2.2.2.2.2.2.2.2.1),Eng.V.c (Value.int IntKind.u8 x2.1.2.2.1.2.2.2.2.2.2.2.2.2.2.2.2.2.2.2.2.2.2.2.1)][Int.toNat x2.1.2.2.2.1 * (1:Nat)]?) False fun n3 =>
 (if 0≤Int.fdiv n3 16∧Int.fdiv n3 (16 :Int) < 16 then
 (lt (Eng.bAt (ByteArray.mk #[(48:UInt8),(49:UInt8),(50:UInt8),(51:UInt8),(52:UInt8),(53:UInt8),(54:UInt8),(55:UInt8),(56:UInt8),(57:UInt8),(97:UInt8),(98:UInt8),(99:UInt8),(100:UInt8),(101:UInt8),(102:UInt8)]) (Int.toNat (Int.fdiv n3 16))) fun v4 =>
 (if 0≤wu8 (↑(BitVec.toNat (BitVec.ofInt (8:Nat) n3 &&& BitVec.ofInt (8:Nat) 15)):Int)∧wu8 (↑(BitVec.toNat (BitVec.ofInt (8:Nat) n3 &&& BitVec.ofInt (8:Nat) 15)):Int) < 16 then
 (lt (Eng.bAt (ByteArray.mk #[(48:UInt8),(49:UInt8),(50:UInt8),(51:UInt8),(52:UInt8),(53:UInt8),(54:UInt8),(55:UInt8),(56:UInt8),(57:UInt8),(97:UInt8),(98:UInt8),(99:UInt8),(100:UInt8),(101:UInt8),(102:UInt8)]) (Int.toNat (wu8 (↑(BitVec.toNat (BitVec.ofInt (8:Nat) n3 &&& BitVec.ofInt (8:Nat) 15)):Int)))) fun v5 =>
 (if Eng.roomOk (List.length x2.2.1+List.length [Eng.V.c (Value.int IntKind.u8 v4),Eng.V.c (Value.int IntKind.u8 v5)]) (1:Nat) then
 k1 ((x2.1.1,(),x2.1.2.2.1,w64 (x2.1.2.2.2.1+1),()),x2.2.1++[Eng.V.c (Value.int IntKind.u8 v4),Eng.V.c (Value.int IntKind.u8 v5)],())
 else
 False))
 else
 False))
 else
 False))
 else
 False)
 else
 (if Eng.allU8 x2.2.1 then
 K (Eng.packB x2.2.1)
 else
 False))
def Lq24_0p:Lp:=⟨204,[.trim 204,.fat 3 1 416,.trim 204],pT115,pH116,0⟩
def Yq24 (a0:Q91) (K:ByteArray→Prop):Prop :=
 lp (Lq24_0 K) ((ByteArray.mk #[],(),a0,0,()),[],())
def Xq24:Tq24:=Yq24
def Jq24 (X:Tq24):Inst:=mkI 69 pL100 .nil pL0 .nil X
def Iq24:Inst:=Jq24 Xq24
theorem Eq24:EqF Tryz.prog 22 gives Tryz.f69 [] [Lq24_0p] (Jq24 (Yq24)):=fun x y K=>by kernel_rfl
theorem Iq24_ok:InstOk Tryz.prog G.1 Iq24:=iok (gives:=gives) [Lq24_0p] okNil 22 follows Tryz.func69 (by kernel_rfl) (fun x=>by kernel_rfl) (Eq24)
abbrev Tq1m:Type:=Q37→(ByteArray→Prop)→Prop
def Lq1m_1 (xjoin:Tjoin) (K:ByteArray→Prop) (k1:Q117→Prop):(Q118→Prop)→Q118→Prop:=fun k27 x28 =>
 (if decide (x28.1.2.2.2.2.1 < x28.1.2.2.2.1) then
 (lt (w64 (w64 (8 * x28.1.2.2.2.2.1)+8)) fun v29 =>
 (if 0≤v29∧v29≤(↑(ByteArray.size x28.1.2.1):Int) then
 (if 0≤w64 (8 * x28.1.2.2.2.2.1)∧w64 (8 * x28.1.2.2.2.2.1)≤v29 then
 (lt (ByteArray.extract x28.1.2.1 (Int.toNat (w64 (8 * x28.1.2.2.2.2.1))) (Int.toNat v29)) fun v30 =>
 (if 0≤x28.1.2.2.2.2.1∧x28.1.2.2.2.2.1 < (↑(List.length x28.2.1):Int) then
 (if Int.toNat x28.1.2.2.2.2.1 < List.length x28.2.1 then
 k27 ((x28.1.1,x28.1.2.1,(),x28.1.2.2.2.1,w64 (x28.1.2.2.2.2.1+1),()),List.set x28.2.1 (Int.toNat x28.1.2.2.2.2.1) (Eng.setE (List.getD x28.2.1 (Int.toNat x28.1.2.2.2.2.1) Eng.V.bad) (0:Nat) [Eng.V.c (Value.string v30)]),())
 else
 False)
 else
 False))
 else
 False)
 else
 False))
 else
 xjoin x28.2.1 (ByteArray.mk #[(32:UInt8)]) (fun r31 =>
 K r31))
def Lq1m_1p:Lp:=⟨805306468,[.trim 805306468],pT119,pH120,0⟩
def Lq1m_0 (xq24:Tq24) (xjoin:Tjoin) (K:ByteArray→Prop):(Q117→Prop)→Q117→Prop:=fun k1 x2 =>
 (if decide (x2.1.2.2.2.1 < 20) then
 (if 0≤w64 (Int.tdiv x2.1.2.2.2.1 4)∧w64 (Int.tdiv x2.1.2.2.2.1 4) < 5 then
 (Eng.asInt IntKind.u32 ([Eng.V.c (Value.int IntKind.u32 x2.2.1.1),Eng.V.c (Value.int IntKind.u32 x2.2.1.2.1),Eng.V.c (Value.int IntKind.u32 x2.2.1.2.2.1),Eng.V.c (Value.int IntKind.u32 x2.2.1.2.2.2.1),Eng.V.c (Value.int IntKind.u32 x2.2.1.2.2.2.2.1)][(0:Nat)+Int.toNat (w64 (Int.tdiv x2.1.2.2.2.1 4)) * (1:Nat)]?) False fun n3 =>
 (lt (w64 (24 - w64 (Int.tmod x2.1.2.2.2.1 (4 :Int) * 8))) fun v4 =>
 (if v4 < 0 then
 False
 else
 (if 0≤x2.1.2.2.2.1∧x2.1.2.2.2.1 < 20 then
 (if (0:Nat) < List.length x2.2.2.1 then
 (if (0:Nat)+Int.toNat x2.1.2.2.2.1 * (1:Nat)+List.length [Eng.V.c (Value.int IntKind.u8 (wu8 (Int.fdiv n3 (2 ^ Min.min (Int.toNat v4) (32:Nat)))))]≤(20:Nat) then
 (lt (List.set x2.2.2.1 (0:Nat) (Eng.setE (List.getD x2.2.2.1 (0:Nat) Eng.V.bad) ((0:Nat)+Int.toNat x2.1.2.2.2.1 * (1:Nat)) [Eng.V.c (Value.int IntKind.u8 (wu8 (Int.fdiv n3 (2 ^ Min.min (Int.toNat v4) (32:Nat)))))])) fun v5 =>
 k1 (((),x2.1.2.1,(),w64 (x2.1.2.2.2.1+1),()),x2.2.1,v5,()))
 else
 False)
 else
 False)
 else
 False))))
 else
 False)
 else
 (Eng.asInt IntKind.u8 (Eng.getC x2.2.2.1 (0:Nat) (0:Nat)) False fun n6 =>
 (Eng.asInt IntKind.u8 (Eng.getC x2.2.2.1 (0:Nat) (1:Nat)) False fun n7 =>
 (Eng.asInt IntKind.u8 (Eng.getC x2.2.2.1 (0:Nat) (2:Nat)) False fun n8 =>
 (Eng.asInt IntKind.u8 (Eng.getC x2.2.2.1 (0:Nat) (3:Nat)) False fun n9 =>
 (Eng.asInt IntKind.u8 (Eng.getC x2.2.2.1 (0:Nat) (4:Nat)) False fun n10 =>
 (Eng.asInt IntKind.u8 (Eng.getC x2.2.2.1 (0:Nat) (5:Nat)) False fun n11 =>
 (Eng.asInt IntKind.u8 (Eng.getC x2.2.2.1 (0:Nat) (6:Nat)) False fun n12 =>
 (Eng.asInt IntKind.u8 (Eng.getC x2.2.2.1 (0:Nat) (7:Nat)) False fun n13 =>
 (Eng.asInt IntKind.u8 (Eng.getC x2.2.2.1 (0:Nat) (8:Nat)) False fun n14 =>
 (Eng.asInt IntKind.u8 (Eng.getC x2.2.2.1 (0:Nat) (9:Nat)) False fun n15 =>
 (Eng.asInt IntKind.u8 (Eng.getC x2.2.2.1 (0:Nat) (10:Nat)) False fun n16 =>
 (Eng.asInt IntKind.u8 (Eng.getC x2.2.2.1 (0:Nat) (11:Nat)) False fun n17 =>
 (Eng.asInt IntKind.u8 (Eng.getC x2.2.2.1 (0:Nat) (12:Nat)) False fun n18 =>
 (Eng.asInt IntKind.u8 (Eng.getC x2.2.2.1 (0:Nat) (13:Nat)) False fun n19 =>
 (Eng.asInt IntKind.u8 (Eng.getC x2.2.2.1 (0:Nat) (14:Nat)) False fun n20 =>
 (Eng.asInt IntKind.u8 (Eng.getC x2.2.2.1 (0:Nat) (15:Nat)) False fun n21 =>
 (Eng.asInt IntKind.u8 (Eng.getC x2.2.2.1 (0:Nat) (16:Nat)) False fun n22 =>
 (Eng.asInt IntKind.u8 (Eng.getC x2.2.2.1 (0:Nat) (17:Nat)) False fun n23 =>
 (Eng.asInt IntKind.u8 (Eng.getC x2.2.2.1 (0:Nat) (18:Nat)) False fun n24 =>
 (Eng.asInt IntKind.u8 (Eng.getC x2.2.2.1 (0:Nat) (19:Nat)) False fun n25 =>
 xq24 (n6,n7,n8,n9,n10,n11,n12,n13,n14,n15,n16,n17,n18,n19,n20,n21,n22,n23,n24,n25,()) (fun r26 =>
 lp (Lq1m_1 xjoin K k1) ((x2.1.2.1,r26,(),5,0,()),[Eng.V.c (Value.string (ByteArray.mk #[])),Eng.V.c (Value.string (ByteArray.mk #[])),Eng.V.c (Value.string (ByteArray.mk #[])),Eng.V.c (Value.string (ByteArray.mk #[])),Eng.V.c (Value.string (ByteArray.mk #[]))],())))))))))))))))))))))))
def Lq1m_0p:Lp:=⟨270,[.trim 270],pT121,pH122,0⟩
def Yq1m (xq24:Tq24) (xjoin:Tjoin) (a0:Q37) (K:ByteArray→Prop):Prop :=
 lp (Lq1m_0 xq24 xjoin K) (((),ByteArray.mk #[],(),0,()),a0,[Eng.V.agg [Eng.V.c (Value.int IntKind.u8 0),Eng.V.c (Value.int IntKind.u8 0),Eng.V.c (Value.int IntKind.u8 0),Eng.V.c (Value.int IntKind.u8 0),Eng.V.c (Value.int IntKind.u8 0),Eng.V.c (Value.int IntKind.u8 0),Eng.V.c (Value.int IntKind.u8 0),Eng.V.c (Value.int IntKind.u8 0),Eng.V.c (Value.int IntKind.u8 0),Eng.V.c (Value.int IntKind.u8 0),Eng.V.c (Value.int IntKind.u8 0),Eng.V.c (Value.int IntKind.u8 0),Eng.V.c (Value.int IntKind.u8 0),Eng.V.c (Value.int IntKind.u8 0),Eng.V.c (Value.int IntKind.u8 0),Eng.V.c (Value.int IntKind.u8 0),Eng.V.c (Value.int IntKind.u8 0),Eng.V.c (Value.int IntKind.u8 0),Eng.V.c (Value.int IntKind.u8 0),Eng.V.c (Value.int IntKind.u8 0)]],())
def Xq1m:Tq1m:=Yq1m Xq24 Xjoin
def Jq1m (X:Tq1m):Inst:=mkI 37 pL110 .nil pL0 .nil X
def Iq1m:Inst:=Jq1m Xq1m
theorem Eq1m (xq24:Tq24) (xjoin:Tjoin):EqF Tryz.prog 45 gives Tryz.f37 [Jq24 xq24,Jjoin xjoin] [Lq1m_0p,Lq1m_1p] (Jq1m (Yq1m xq24 xjoin)):=fun x y K=>by kernel_rfl
theorem Iq1m_ok:InstOk Tryz.prog G.1 Iq1m:=iok (gives:=gives) [Lq1m_0p,Lq1m_1p] (okCons Iq24_ok (okCons Ijoin_ok okNil)) 45 follows Tryz.func37 (by kernel_rfl) (fun x=>by kernel_rfl) (Eq1m Xq24 Xjoin)
abbrev Tq1i:Type:=Q53→Int→(ByteArray→Bool→Prop)→Prop
def Lq1i_0 (xq17:Tq17) (xq19:Tq19) (xq1a:Tq1a) (xq1m:Tq1m) (K:ByteArray→Bool→Prop):(Q123→Prop)→Q123→Prop:=fun k11 x12 =>
 (if decide (x12.1.2.2.2.2.2.2.1 < x12.1.2.2.2.2.2.1) then
 (if 0≤x12.1.2.2.2.2.2.2.1∧x12.1.2.2.2.2.2.2.1 < (↑(List.length x12.1.2.2.2.2.1):Int) then
 (Eng.asInt IntKind.i64 (Eng.getC x12.1.2.2.2.2.1 (Int.toNat x12.1.2.2.2.2.2.2.1) (0:Nat)) False fun n13 =>
 (Eng.asInt IntKind.i64 (Eng.getC x12.1.2.2.2.2.1 (Int.toNat x12.1.2.2.2.2.2.2.1) (1:Nat)) False fun n14 =>
 (Eng.asBool (Eng.getC x12.1.2.2.2.2.1 (Int.toNat x12.1.2.2.2.2.2.2.1) (2:Nat)) False fun b15 =>
 (if b15 then
 K (ByteArray.mk #[]) false
 else
 (if decide (w64 (x12.1.2.2.2.1+n14) < 0) then
 K (ByteArray.mk #[]) false
 else
 (lt (w64 (w64 (n13+1) * 86400)) fun v16 =>
 xq17 v16 (w64 (x12.1.2.2.2.1+n14)) (fun r17 =>
 (if (↑(ByteArray.size x12.1.2.2.1+ByteArray.size r17):Int) > 9223372036854775807 then
 False
 else
 k11 ((x12.1.1,x12.1.2.1,x12.1.2.2.1++r17,w64 (x12.1.2.2.2.1+n14),x12.1.2.2.2.2.1,x12.1.2.2.2.2.2.1,w64 (x12.1.2.2.2.2.2.2.1+1),()),())))))))))
 else
 False)
 else
 (if (↑(ByteArray.size x12.1.2.2.1+(2:Nat)):Int) > 9223372036854775807 then
 False
 else
 (lt (x12.1.2.2.1++ByteArray.mk #[(35:UInt8),(104:UInt8)]) fun v18 =>
 (if (↑(ByteArray.size v18+(1:Nat)):Int) > 9223372036854775807 then
 False
 else
 xq19 x12.1.2.2.1 (fun r19 =>
 xq1a r19 (fun r20 =>
 xq1m r20 (fun r21 =>
 (if (↑(ByteArray.size (v18++ByteArray.mk #[(9:UInt8)])+ByteArray.size r21):Int) > 9223372036854775807 then
 False
 else
 (lt (v18++ByteArray.mk #[(9:UInt8)]++r21) fun v22 =>
 (if (↑(ByteArray.size v22+(1:Nat)):Int) > 9223372036854775807 then
 False
 else
 K (v22++ByteArray.mk #[(10:UInt8)]) true))))))))))
def Lq1i_0p:Lp:=⟨30786325578352,[.trim 30786325578352],pT124,.nil,0⟩
def Yq1i (xq11:Tq11) (xitoa:Titoa) (xq21:Tq21) (xq17:Tq17) (xq19:Tq19) (xq1a:Tq1a) (xq1m:Tq1m) (a0:Q53) (a1:Int) (K:ByteArray→Bool→Prop):Prop :=
 xq11 a0 (fun r2 =>
 (if (!r2) then
 K (ByteArray.mk #[]) false
 else
 (if decide (a1 < 0) then
 K (ByteArray.mk #[]) false
 else
 xitoa a1 (fun r3 =>
 (if (↑((3:Nat)+ByteArray.size r3):Int) > 9223372036854775807 then
 False
 else
 (lt (ByteArray.mk #[(35:UInt8),(36:UInt8),(9:UInt8)]++r3) fun v4 =>
 (if (↑(ByteArray.size v4+(1:Nat)):Int) > 9223372036854775807 then
 False
 else
 (if a0.2.1 then
 xq21 a0.2.2.1 (fun r5 r6 =>
 xitoa r5 (fun r7 =>
 (if (↑((3:Nat)+ByteArray.size r7):Int) > 9223372036854775807 then
 False
 else
 (lt (ByteArray.mk #[(35:UInt8),(64:UInt8),(9:UInt8)]++r7) fun v8 =>
 (if (↑(ByteArray.size v8+(1:Nat)):Int) > 9223372036854775807 then
 False
 else
 (if (↑(ByteArray.size (v4++ByteArray.mk #[(10:UInt8)])+ByteArray.size (v8++ByteArray.mk #[(10:UInt8)])):Int) > 9223372036854775807 then
 False
 else
 (lt (v4++ByteArray.mk #[(10:UInt8)]++(v8++ByteArray.mk #[(10:UInt8)])) fun v9 =>
 xq17 63072000 10 (fun r10 =>
 (if (↑(ByteArray.size v9+ByteArray.size r10):Int) > 9223372036854775807 then
 False
 else
 lp (Lq1i_0 xq17 xq19 xq1a xq1m K) ((ByteArray.mk #[],false,v9++r10,10,a0.1,(↑(List.length a0.1):Int),0,()),()))))))))))
 else
 xq17 63072000 10 (fun r23 =>
 (if (↑(ByteArray.size (v4++ByteArray.mk #[(10:UInt8)])+ByteArray.size r23):Int) > 9223372036854775807 then
 False
 else
 (lt (v4++ByteArray.mk #[(10:UInt8)]++r23) fun v24 =>
 lp (Lq1i_0 xq17 xq19 xq1a xq1m K) ((ByteArray.mk #[],false,v24,10,a0.1,(↑(List.length a0.1):Int),0,()),()))))))))))))
def Xq1i:Tq1i:=Yq1i Xq11 Xitoa Xq21 Xq17 Xq19 Xq1a Xq1m
def Jq1i (X:Tq1i):Inst:=mkI 9 pL125 .nil pL126 .nil X
def Iq1i:Inst:=Jq1i Xq1i
theorem Eq1i (xq11:Tq11) (xitoa:Titoa) (xq21:Tq21) (xq17:Tq17) (xq19:Tq19) (xq1a:Tq1a) (xq1m:Tq1m):EqF Tryz.prog 76 gives Tryz.f9 [Jq11 xq11,Jitoa xitoa,Jq21 xq21,Jq17 xq17,Jq19 xq19,Jq1a xq1a,Jq1m xq1m] [Lq1i_0p] (Jq1i (Yq1i xq11 xitoa xq21 xq17 xq19 xq1a xq1m)):=fun x y K=>by kernel_rfl
theorem Iq1i_ok:InstOk Tryz.prog G.1 Iq1i:=iok (gives:=gives) [Lq1i_0p] (okCons Iq11_ok (okCons Iitoa_ok (okCons Iq21_ok (okCons Iq17_ok (okCons Iq19_ok (okCons Iq1a_ok (okCons Iq1m_ok okNil))))))) 76 follows Tryz.func9 (by kernel_rfl) (fun x=>by kernel_rfl) (Eq1i Xq11 Xitoa Xq21 Xq17 Xq19 Xq1a Xq1m)
abbrev Tq0f:Type:=Q53→Q53→(Bool→Prop)→Prop
def Lq0f_0 (K:Bool→Prop):(Q127→Prop)→Q127→Prop:=fun k2 x3 =>
 (if decide (x3.1.2.2.2.1 < (↑(List.length x3.2.1.1):Int)) then
 (if 0≤x3.1.2.2.2.1∧x3.1.2.2.2.1 < (↑(List.length x3.2.1.1):Int) then
 (Eng.asInt IntKind.i64 (Eng.getC x3.2.1.1 (Int.toNat x3.1.2.2.2.1) (0:Nat)) False fun n4 =>
 (Eng.asInt IntKind.i64 (Eng.getC x3.2.1.1 (Int.toNat x3.1.2.2.2.1) (1:Nat)) False fun n5 =>
 (Eng.asBool (Eng.getC x3.2.1.1 (Int.toNat x3.1.2.2.2.1) (2:Nat)) False fun b6 =>
 (if 0≤x3.1.2.2.2.1∧x3.1.2.2.2.1 < (↑(List.length x3.2.2.1.1):Int) then
 (Eng.asInt IntKind.i64 (Eng.getC x3.2.2.1.1 (Int.toNat x3.1.2.2.2.1) (0:Nat)) False fun n7 =>
 (Eng.asInt IntKind.i64 (Eng.getC x3.2.2.1.1 (Int.toNat x3.1.2.2.2.1) (1:Nat)) False fun n8 =>
 (Eng.asBool (Eng.getC x3.2.2.1.1 (Int.toNat x3.1.2.2.2.1) (2:Nat)) False fun b9 =>
 (lt (!(n4 == n7 && (n5 == n8 && (b6 == b9 && true)))) fun v10 =>
 (if v10 then
 K false
 else
 k2 (((),(),x3.1.2.2.1,w64 (x3.1.2.2.2.1+1),()),x3.2))))))
 else
 False))))
 else
 False)
 else
 K true)
def Lq0f_0p:Lp:=⟨60,[.trim 60],pT128,pH129,0⟩
def Yq0f (a0:Q53) (a1:Q53) (K:Bool→Prop):Prop :=
 (if ((↑(List.length a0.1):Int) != (↑(List.length a1.1):Int)) then
 K false
 else
 (if (!a0.2.1 == a1.2.1) then
 K false
 else
 (if (a0.2.2.1 != a1.2.2.1) then
 K false
 else
 lp (Lq0f_0 K) (((),(),false,0,()),a0,a1,()))))
def Xq0f:Tq0f:=Yq0f
def Jq0f (X:Tq0f):Inst:=mkI 11 pL130 .nil pL9 .nil X
def Iq0f:Inst:=Jq0f Xq0f
theorem Eq0f:EqF Tryz.prog 45 gives Tryz.f11 [] [Lq0f_0p] (Jq0f (Yq0f)):=fun x y K=>by kernel_rfl
theorem Iq0f_ok:InstOk Tryz.prog G.1 Iq0f:=iok (gives:=gives) [Lq0f_0p] okNil 45 follows Tryz.func11 (by kernel_rfl) (fun x=>by kernel_rfl) (Eq0f)
abbrev Tq0m:Type:=Q53→(Bool→Prop)→Prop
def Yq0m (a0:Q53) (K:Bool→Prop):Prop :=
 K (decide ((↑(List.length a0.1):Int)≤300))
def Xq0m:Tq0m:=Yq0m
def Jq0m (X:Tq0m):Inst:=mkI 6 pL57 .nil pL9 .nil X
def Iq0m:Inst:=Jq0m Xq0m
theorem Eq0m:EqF Tryz.prog 7 gives Tryz.f6 [] [] (Jq0m (Yq0m)):=fun x y K=>by kernel_rfl
theorem Iq0m_ok:InstOk Tryz.prog G.1 Iq0m:=iok (gives:=gives) [] okNil 7 follows Tryz.func6 (by kernel_rfl) (fun x=>by kernel_rfl) (Eq0m)
end Go.Proofs.YtdjldmolhkkipaaGreatDoor
end
section
set_option linter.unusedVariables false
set_option linter.unusedSimpArgs false
namespace Go.Proofs.YtdjldmolhkkipaaGreatDoor
open Go Go.Proofs.YtdjldmolhkkipaaGreatDoor.Eng
set_option maxRecDepth 100000
set_option maxHeartbeats 4000000
variable {G:Gs}
abbrev Tq10:Type:=ByteArray→(ByteArray→Prop)→Prop
def Lq10_0 (K:ByteArray→Prop):(Q131→Prop)→Q131→Prop:=fun k1 x2 =>
 (if decide (x2.1.2.2.2.2.1 < x2.1.2.2.2.1) then
 (if 0≤x2.1.2.2.2.2.1∧x2.1.2.2.2.2.1 < (↑(List.length x2.2.1):Int) then
 (Eng.asInt IntKind.u8 (Eng.getC x2.2.1 (Int.toNat x2.1.2.2.2.2.1) (0:Nat)) False fun n3 =>
 (if decide (n3≥65) then
 (if decide (n3≤90) then
 (if 0≤x2.1.2.2.2.2.1∧x2.1.2.2.2.2.1 < (↑(List.length x2.2.1):Int) then
 (Eng.asInt IntKind.u8 (Eng.getC x2.2.1 (Int.toNat x2.1.2.2.2.2.1) (0:Nat)) False fun n4 =>
 (if 0≤x2.1.2.2.2.2.1∧x2.1.2.2.2.2.1 < (↑(List.length x2.2.1):Int) then
 (if Int.toNat x2.1.2.2.2.2.1 < List.length x2.2.1 then
 (lt (List.set x2.2.1 (Int.toNat x2.1.2.2.2.2.1) (Eng.setE (List.getD x2.2.1 (Int.toNat x2.1.2.2.2.2.1) Eng.V.bad) (0:Nat) [Eng.V.c (Value.int IntKind.u8 (wu8 (n4+32)))])) fun v5 =>
 k1 ((x2.1.1,(),(),x2.1.2.2.2.1,w64 (x2.1.2.2.2.2.1+1),()),v5,()))
 else
 False)
 else
 False))
 else
 False)
 else
 k1 ((x2.1.1,(),(),x2.1.2.2.2.1,w64 (x2.1.2.2.2.2.1+1),()),x2.2))
 else
 k1 ((x2.1.1,(),(),x2.1.2.2.2.1,w64 (x2.1.2.2.2.2.1+1),()),x2.2)))
 else
 False)
 else
 (if Eng.allU8 x2.2.1 then
 K (Eng.packB x2.2.1)
 else
 False))
def Lq10_0p:Lp:=⟨1804,[.trim 1804],pT208,pH209,0⟩
def Yq10 (a0:ByteArray) (K:ByteArray→Prop):Prop :=
 lp (Lq10_0 K) ((ByteArray.mk #[],(),(),(↑(List.length (Eng.bytesV a0)):Int),0,()),Eng.bytesV a0,())
def Xq10:Tq10:=Yq10
def Jq10 (X:Tq10):Inst:=mkI 72 pL0 .nil pL0 .nil X
def Iq10:Inst:=Jq10 Xq10
theorem Eq10:EqF Tryz.prog 30 gives Tryz.f72 [] [Lq10_0p] (Jq10 (Yq10)):=fun x y K=>by kernel_rfl
theorem Iq10_ok:InstOk Tryz.prog G.1 Iq10:=iok (gives:=gives) [Lq10_0p] okNil 30 follows Tryz.func72 (by kernel_rfl) (fun x=>by kernel_rfl) (Eq10)
abbrev Tq1b:Type:=(Q210→Prop)→Prop
def Yq1b (K:Q210→Prop):Prop :=
 K (ByteArray.mk #[(106:UInt8),(97:UInt8),(110:UInt8),(117:UInt8),(97:UInt8),(114:UInt8),(121:UInt8)],ByteArray.mk #[(102:UInt8),(101:UInt8),(98:UInt8),(114:UInt8),(117:UInt8),(97:UInt8),(114:UInt8),(121:UInt8)],ByteArray.mk #[(109:UInt8),(97:UInt8),(114:UInt8),(99:UInt8),(104:UInt8)],ByteArray.mk #[(97:UInt8),(112:UInt8),(114:UInt8),(105:UInt8),(108:UInt8)],ByteArray.mk #[(109:UInt8),(97:UInt8),(121:UInt8)],ByteArray.mk #[(106:UInt8),(117:UInt8),(110:UInt8),(101:UInt8)],ByteArray.mk #[(106:UInt8),(117:UInt8),(108:UInt8),(121:UInt8)],ByteArray.mk #[(97:UInt8),(117:UInt8),(103:UInt8),(117:UInt8),(115:UInt8),(116:UInt8)],ByteArray.mk #[(115:UInt8),(101:UInt8),(112:UInt8),(116:UInt8),(101:UInt8),(109:UInt8),(98:UInt8),(101:UInt8),(114:UInt8)],ByteArray.mk #[(111:UInt8),(99:UInt8),(116:UInt8),(111:UInt8),(98:UInt8),(101:UInt8),(114:UInt8)],ByteArray.mk #[(110:UInt8),(111:UInt8),(118:UInt8),(101:UInt8),(109:UInt8),(98:UInt8),(101:UInt8),(114:UInt8)],ByteArray.mk #[(100:UInt8),(101:UInt8),(99:UInt8),(101:UInt8),(109:UInt8),(98:UInt8),(101:UInt8),(114:UInt8)],())
def Xq1b:Tq1b:=Yq1b
def Jq1b (X:Tq1b):Inst:=mkI 73 .nil .nil pL211 .nil X
def Iq1b:Inst:=Jq1b Xq1b
theorem Eq1b:EqF Tryz.prog 2 gives Tryz.f73 [] [] (Jq1b (Yq1b)):=fun x y K=>by kernel_rfl
theorem Iq1b_ok:InstOk Tryz.prog G.1 Iq1b:=iok (gives:=gives) [] okNil 2 follows Tryz.func73 (by kernel_rfl) (fun x=>by kernel_rfl) (Eq1b)
abbrev Tq1k:Type:=ByteArray→(Int→Bool→Prop)→Prop
def Lq1k_0 (xq0b:Tq0b) (K:Int→Bool→Prop):(Q212→Prop)→Q212→Prop:=fun k3 x4 =>
 (if decide (x4.1.2.2.2.2.1 < 12) then
 (if 0≤x4.1.2.2.2.2.1∧x4.1.2.2.2.2.1 < 12 then
 (Eng.asStr ([Eng.V.c (Value.string x4.1.2.2.2.1.1),Eng.V.c (Value.string x4.1.2.2.2.1.2.1),Eng.V.c (Value.string x4.1.2.2.2.1.2.2.1),Eng.V.c (Value.string x4.1.2.2.2.1.2.2.2.1),Eng.V.c (Value.string x4.1.2.2.2.1.2.2.2.2.1),Eng.V.c (Value.string x4.1.2.2.2.1.2.2.2.2.2.1),Eng.V.c (Value.string x4.1.2.2.2.1.2.2.2.2.2.2.1),Eng.V.c (Value.string x4.1.2.2.2.1.2.2.2.2.2.2.2.1),Eng.V.c (Value.string x4.1.2.2.2.1.2.2.2.2.2.2.2.2.1),Eng.V.c (Value.string x4.1.2.2.2.1.2.2.2.2.2.2.2.2.2.1),Eng.V.c (Value.string x4.1.2.2.2.1.2.2.2.2.2.2.2.2.2.2.1),Eng.V.c (Value.string x4.1.2.2.2.1.2.2.2.2.2.2.2.2.2.2.2.1)][Int.toNat x4.1.2.2.2.2.1 * (1:Nat)]?) False fun t5 =>
 (if decide ((↑(ByteArray.size x4.1.2.2.1):Int) > 2) then
 xq0b t5 x4.1.2.2.1 (fun r6 =>
 (if r6 then
 K (w64 (x4.1.2.2.2.2.1+1)) true
 else
 k3 ((x4.1.1,x4.1.2.1,x4.1.2.2.1,x4.1.2.2.2.1,w64 (x4.1.2.2.2.2.1+1),()),())))
 else
 k3 ((x4.1.1,x4.1.2.1,x4.1.2.2.1,x4.1.2.2.2.1,w64 (x4.1.2.2.2.2.1+1),()),())))
 else
 False)
 else
 K 0 false)
def Lq1k_0p:Lp:=⟨1564,[.trim 1564],pT213,.nil,0⟩
def Yq1k (xq10:Tq10) (xq1b:Tq1b) (xq0b:Tq0b) (a0:ByteArray) (K:Int→Bool→Prop):Prop :=
 xq10 a0 (fun r1 =>
 xq1b (fun r2 =>
 lp (Lq1k_0 xq0b K) ((0,false,r1,r2,0,()),())))
def Xq1k:Tq1k:=Yq1k Xq10 Xq1b Xq0b
def Jq1k (X:Tq1k):Inst:=mkI 44 pL0 .nil pL21 .nil X
def Iq1k:Inst:=Jq1k Xq1k
theorem Eq1k (xq10:Tq10) (xq1b:Tq1b) (xq0b:Tq0b):EqF Tryz.prog 25 gives Tryz.f44 [Jq10 xq10,Jq1b xq1b,Jq0b xq0b] [Lq1k_0p] (Jq1k (Yq1k xq10 xq1b xq0b)):=fun x y K=>by kernel_rfl
theorem Iq1k_ok:InstOk Tryz.prog G.1 Iq1k:=iok (gives:=gives) [Lq1k_0p] (okCons Iq10_ok (okCons Iq1b_ok (okCons Iq0b_ok okNil))) 25 follows Tryz.func44 (by kernel_rfl) (fun x=>by kernel_rfl) (Eq1k Xq10 Xq1b Xq0b)
abbrev Tq0n:Type:=ByteArray→ByteArray→Int→((List Eng.V)→Bool→Bool→Prop)→Prop
def Yq0n (xq0c:Tq0c) (a0:ByteArray) (a1:ByteArray) (a2:Int) (K:(List Eng.V)→Bool→Bool→Prop):Prop :=
 xq0c a0 a1 0 a2 (fun r3 r4 r5 =>
 K r3 r4 r5)
def Xq0n:Tq0n:=Yq0n Xq0c
def Jq0n (X:Tq0n):Inst:=mkI 75 pL29 .nil pL7 pH8 X
def Iq0n:Inst:=Jq0n Xq0n
theorem Eq0n (xq0c:Tq0c):EqF Tryz.prog 11 gives Tryz.f75 [Jq0c xq0c] [] (Jq0n (Yq0n xq0c)):=fun x y K=>by kernel_rfl
theorem Iq0n_ok:InstOk Tryz.prog G.1 Iq0n:=iok (gives:=gives) [] (okCons Iq0c_ok okNil) 11 follows Tryz.func75 (by kernel_rfl) (fun x=>by kernel_rfl) (Eq0n Xq0c)
abbrev Tq0q:Type:=Int→Int→Int→(Int→Bool→Prop)→Prop
def Yq0q (a0:Int) (a1:Int) (a2:Int) (K:Int→Bool→Prop):Prop :=
 (if (a0 == 23) then
 (if (a1 == 59) then
 (if (a2 == 60) then
 K 86400 true
 else
 (lt (if a2 < if a1 < a0 then a1 else a0 then a2 else if a1 < a0 then a1 else a0) fun v3 =>
 (if decide (v3 < 0) then
 K 0 false
 else
 (if decide (a0 > 23) then
 K 0 false
 else
 (if decide (a1 > 59) then
 K 0 false
 else
 (if decide (a2 > 59) then
 K 0 false
 else
 (lt (w64 (w64 (a0 * 60)+a1)) fun v4 =>
 (lt (w64 (w64 (v4 * 60)+a2)) fun v5 =>
 K v5 true))))))))
 else
 (lt (if a2 < if a1 < a0 then a1 else a0 then a2 else if a1 < a0 then a1 else a0) fun v6 =>
 (if decide (v6 < 0) then
 K 0 false
 else
 (if decide (a0 > 23) then
 K 0 false
 else
 (if decide (a1 > 59) then
 K 0 false
 else
 (if decide (a2 > 59) then
 K 0 false
 else
 (lt (w64 (w64 (a0 * 60)+a1)) fun v7 =>
 (lt (w64 (w64 (v7 * 60)+a2)) fun v8 =>
 K v8 true))))))))
 else
 (lt (if a2 < if a1 < a0 then a1 else a0 then a2 else if a1 < a0 then a1 else a0) fun v9 =>
 (if decide (v9 < 0) then
 K 0 false
 else
 (if decide (a0 > 23) then
 K 0 false
 else
 (if decide (a1 > 59) then
 K 0 false
 else
 (if decide (a2 > 59) then
 K 0 false
 else
 (lt (w64 (w64 (a0 * 60)+a1)) fun v10 =>
 (lt (w64 (w64 (v10 * 60)+a2)) fun v11 =>
 K v11 true))))))))
def Xq0q:Tq0q:=Yq0q
def Jq0q (X:Tq0q):Inst:=mkI 77 pL214 .nil pL21 .nil X
def Iq0q:Inst:=Jq0q Xq0q
theorem Eq0q:EqF Tryz.prog 42 gives Tryz.f77 [] [] (Jq0q (Yq0q)):=fun x y K=>by kernel_rfl
theorem Iq0q_ok:InstOk Tryz.prog G.1 Iq0q:=iok (gives:=gives) [] okNil 42 follows Tryz.func77 (by kernel_rfl) (fun x=>by kernel_rfl) (Eq0q)
abbrev Tq1h:Type:=ByteArray→(Int→Bool→Prop)→Prop
def Lq1h_0 (xq0r:Tq0r) (xq0q:Tq0q) (K:Int→Bool→Prop):(Q215→Prop)→Q215→Prop:=fun k4 x5 =>
 (if decide (x5.1.2.2.2.2.2.1 < x5.1.2.2.2.2.1) then
 (if 0≤x5.1.2.2.2.2.2.1∧x5.1.2.2.2.2.2.1 < (↑(List.length x5.2.2.1.1):Int) then
 (Eng.asStr (Eng.getC x5.2.2.1.1 (Int.toNat x5.1.2.2.2.2.2.1) (0:Nat)) False fun t6 =>
 xq0r t6 (fun r7 r8 =>
 (if (!r8) then
 K 0 false
 else
 (if decide ((↑(ByteArray.size t6):Int) > 2) then
 K 0 false
 else
 (if 0≤x5.1.2.2.2.2.2.1∧x5.1.2.2.2.2.2.1 < 3 then
 (if (0:Nat) < List.length x5.2.1 then
 (if (0:Nat)+Int.toNat x5.1.2.2.2.2.2.1 * (1:Nat)+List.length [Eng.V.c (Value.int IntKind.i64 r7)]≤(3:Nat) then
 (lt (List.set x5.2.1 (0:Nat) (Eng.setE (List.getD x5.2.1 (0:Nat) Eng.V.bad) ((0:Nat)+Int.toNat x5.1.2.2.2.2.2.1 * (1:Nat)) [Eng.V.c (Value.int IntKind.i64 r7)])) fun v9 =>
 k4 ((x5.1.1,x5.1.2.1,(),(),x5.1.2.2.2.2.1,w64 (x5.1.2.2.2.2.2.1+1),()),v9,x5.2.2))
 else
 False)
 else
 False)
 else
 False)))))
 else
 False)
 else
 (Eng.asInt IntKind.i64 (Eng.getC x5.2.1 (0:Nat) (0:Nat)) False fun n10 =>
 (Eng.asInt IntKind.i64 (Eng.getC x5.2.1 (0:Nat) (1:Nat)) False fun n11 =>
 (Eng.asInt IntKind.i64 (Eng.getC x5.2.1 (0:Nat) (2:Nat)) False fun n12 =>
 xq0q n10 n11 n12 (fun r13 r14 =>
 K r13 r14)))))
def Lq1h_0p:Lp:=⟨229404,[.trim 229404],pT216,pH217,0⟩
def Yq1h (xq0n:Tq0n) (xq0r:Tq0r) (xq0q:Tq0q) (a0:ByteArray) (K:Int→Bool→Prop):Prop :=
 xq0n a0 (ByteArray.mk #[(58:UInt8)]) 3 (fun r1 r2 r3 =>
 (if decide ((↑(List.length r1):Int) < 3) then
 K 0 false
 else
 lp (Lq1h_0 xq0r xq0q K) ((0,false,(),(),(↑(List.length r1):Int),0,()),[Eng.V.agg [Eng.V.c (Value.int IntKind.i64 0),Eng.V.c (Value.int IntKind.i64 0),Eng.V.c (Value.int IntKind.i64 0)]],(r1,r2,r3),())))
def Xq1h:Tq1h:=Yq1h Xq0n Xq0r Xq0q
def Jq1h (X:Tq1h):Inst:=mkI 45 pL0 .nil pL21 .nil X
def Iq1h:Inst:=Jq1h Xq1h
theorem Eq1h (xq0n:Tq0n) (xq0r:Tq0r) (xq0q:Tq0q):EqF Tryz.prog 47 gives Tryz.f45 [Jq0n xq0n,Jq0r xq0r,Jq0q xq0q] [Lq1h_0p] (Jq1h (Yq1h xq0n xq0r xq0q)):=fun x y K=>by kernel_rfl
theorem Iq1h_ok:InstOk Tryz.prog G.1 Iq1h:=iok (gives:=gives) [Lq1h_0p] (okCons Iq0n_ok (okCons Iq0r_ok (okCons Iq0q_ok okNil))) 47 follows Tryz.func45 (by kernel_rfl) (fun x=>by kernel_rfl) (Eq1h Xq0n Xq0r Xq0q)
abbrev Tq1u:Type:=Int→(List Eng.V)→(Q218→Bool→Prop)→Prop
def Yq1u (xq0r:Tq0r) (xq1k:Tq1k) (xq1h:Tq1h) (a0:Int) (a1:(List Eng.V)) (K:Q218→Bool→Prop):Prop :=
 (if (0 :Int)≤1∧1 < (↑(List.length a1):Int) then
 (Eng.asStr (Eng.getC a1 (1:Nat) (0:Nat)) False fun t2 =>
 xq0r t2 (fun r3 r4 =>
 (if (0 :Int)≤2∧2 < (↑(List.length a1):Int) then
 (Eng.asStr (Eng.getC a1 (2:Nat) (0:Nat)) False fun t5 =>
 xq1k t5 (fun r6 r7 =>
 (if (0 :Int)≤3∧3 < (↑(List.length a1):Int) then
 (Eng.asStr (Eng.getC a1 (3:Nat) (0:Nat)) False fun t8 =>
 xq0r t8 (fun r9 r10 =>
 (if (0 :Int)≤4∧4 < (↑(List.length a1):Int) then
 (Eng.asStr (Eng.getC a1 (4:Nat) (0:Nat)) False fun t11 =>
 xq1h t11 (fun r12 r13 =>
 (if r4 then
 (if r7 then
 (if r10 then
 K (a0,r3,r6,r9,r12,ByteArray.mk #[],false,()) r13
 else
 K (a0,r3,r6,r9,r12,ByteArray.mk #[],false,()) false)
 else
 K (a0,r3,r6,r9,r12,ByteArray.mk #[],false,()) false)
 else
 K (a0,r3,r6,r9,r12,ByteArray.mk #[],false,()) false)))
 else
 False)))
 else
 False)))
 else
 False)))
 else
 False)
def Xq1u:Tq1u:=Yq1u Xq0r Xq1k Xq1h
def Jq1u (X:Tq1u):Inst:=mkI 111 pL219 .nil pL220 .nil X
def Iq1u:Inst:=Jq1u Xq1u
theorem Eq1u (xq0r:Tq0r) (xq1k:Tq1k) (xq1h:Tq1h):EqF Tryz.prog 58 gives Tryz.f111 [Jq0r xq0r,Jq1k xq1k,Jq1h xq1h] [] (Jq1u (Yq1u xq0r xq1k xq1h)):=fun x y K=>by kernel_rfl
theorem Iq1u_ok:InstOk Tryz.prog G.1 Iq1u:=iok (gives:=gives) [] (okCons Iq0r_ok (okCons Iq1k_ok (okCons Iq1h_ok okNil))) 58 follows Tryz.func111 (by kernel_rfl) (fun x=>by kernel_rfl) (Eq1u Xq0r Xq1k Xq1h)
abbrev Tq1l:Type:=ByteArray→(Bool→Bool→Prop)→Prop
def Yq1l (xq10:Tq10) (xq0b:Tq0b) (a0:ByteArray) (K:Bool→Bool→Prop):Prop :=
 xq10 a0 (fun r1 =>
 xq0b (ByteArray.mk #[(114:UInt8),(111:UInt8),(108:UInt8),(108:UInt8),(105:UInt8),(110:UInt8),(103:UInt8)]) r1 (fun r2 =>
 (if r2 then
 K r2 true
 else
 xq0b (ByteArray.mk #[(115:UInt8),(116:UInt8),(97:UInt8),(116:UInt8),(105:UInt8),(111:UInt8),(110:UInt8),(97:UInt8),(114:UInt8),(121:UInt8)]) r1 (fun r3 =>
 K r2 r3))))
def Xq1l:Tq1l:=Yq1l Xq10 Xq0b
def Jq1l (X:Tq1l):Inst:=mkI 112 pL0 .nil pL221 .nil X
def Iq1l:Inst:=Jq1l Xq1l
theorem Eq1l (xq10:Tq10) (xq0b:Tq0b):EqF Tryz.prog 15 gives Tryz.f112 [Jq10 xq10,Jq0b xq0b] [] (Jq1l (Yq1l xq10 xq0b)):=fun x y K=>by kernel_rfl
theorem Iq1l_ok:InstOk Tryz.prog G.1 Iq1l:=iok (gives:=gives) [] (okCons Iq10_ok (okCons Iq0b_ok okNil)) 15 follows Tryz.func112 (by kernel_rfl) (fun x=>by kernel_rfl) (Eq1l Xq10 Xq0b)
abbrev Tq1w:Type:=(List Eng.V)→(Q218→Bool→Prop)→Prop
def Yq1w (xq10:Tq10) (xq1u:Tq1u) (xq1l:Tq1l) (a0:(List Eng.V)) (K:Q218→Bool→Prop):Prop :=
 (if (0 :Int)≤0∧0 < (↑(List.length a0):Int) then
 (Eng.asStr (Eng.getC a0 (0:Nat) (0:Nat)) False fun t1 =>
 xq10 t1 (fun r2 =>
 (if (ByteArray.toList r2 == ByteArray.toList (ByteArray.mk #[(108:UInt8),(101:UInt8),(97:UInt8),(112:UInt8)])) then
 (if ((↑(List.length a0):Int) == 7) then
 xq1u 0 a0 (fun r3 r4 =>
 (if (0 :Int)≤6∧6 < (↑(List.length a0):Int) then
 (Eng.asStr (Eng.getC a0 (6:Nat) (0:Nat)) False fun t5 =>
 xq1l t5 (fun r6 r7 =>
 (if (0 :Int)≤5∧5 < (↑(List.length a0):Int) then
 (Eng.asStr (Eng.getC a0 (5:Nat) (0:Nat)) False fun t8 =>
 (if (ByteArray.toList t8 == ByteArray.toList (ByteArray.mk #[(43:UInt8)])) then
 (if (ByteArray.toList t8 == ByteArray.toList (ByteArray.mk #[(43:UInt8)])) then
 (if r4 then
 K (r3.1,r3.2.1,r3.2.2.1,r3.2.2.2.1,r3.2.2.2.2.1,t8,r6,()) r7
 else
 K (r3.1,r3.2.1,r3.2.2.1,r3.2.2.2.1,r3.2.2.2.2.1,t8,r6,()) false)
 else
 K (r3.1,r3.2.1,r3.2.2.1,r3.2.2.2.1,r3.2.2.2.2.1,t8,r6,()) false)
 else
 (if (ByteArray.toList t8 == ByteArray.toList (ByteArray.mk #[(45:UInt8)])) then
 (if r4 then
 K (r3.1,r3.2.1,r3.2.2.1,r3.2.2.2.1,r3.2.2.2.2.1,t8,r6,()) r7
 else
 K (r3.1,r3.2.1,r3.2.2.1,r3.2.2.2.1,r3.2.2.2.2.1,t8,r6,()) false)
 else
 K (r3.1,r3.2.1,r3.2.2.1,r3.2.2.2.1,r3.2.2.2.2.1,t8,r6,()) false)))
 else
 False)))
 else
 False))
 else
 (lt (ByteArray.toList r2 == ByteArray.toList (ByteArray.mk #[(101:UInt8),(120:UInt8),(112:UInt8),(105:UInt8),(114:UInt8),(101:UInt8),(115:UInt8)])) fun v9 =>
 (if v9 then
 (if ((↑(List.length a0):Int) == 5) then
 xq1u 1 a0 (fun r10 r11 =>
 K r10 r11)
 else
 K (0,0,0,0,0,ByteArray.mk #[],false,()) false)
 else
 K (0,0,0,0,0,ByteArray.mk #[],false,()) false)))
 else
 (lt (ByteArray.toList r2 == ByteArray.toList (ByteArray.mk #[(101:UInt8),(120:UInt8),(112:UInt8),(105:UInt8),(114:UInt8),(101:UInt8),(115:UInt8)])) fun v12 =>
 (if v12 then
 (if ((↑(List.length a0):Int) == 5) then
 xq1u 1 a0 (fun r13 r14 =>
 K r13 r14)
 else
 K (0,0,0,0,0,ByteArray.mk #[],false,()) false)
 else
 K (0,0,0,0,0,ByteArray.mk #[],false,()) false)))))
 else
 False)
def Xq1w:Tq1w:=Yq1w Xq10 Xq1u Xq1l
def Jq1w (X:Tq1w):Inst:=mkI 82 pL75 .nil pL220 .nil X
def Iq1w:Inst:=Jq1w Xq1w
theorem Eq1w (xq10:Tq10) (xq1u:Tq1u) (xq1l:Tq1l):EqF Tryz.prog 61 gives Tryz.f82 [Jq10 xq10,Jq1u xq1u,Jq1l xq1l] [] (Jq1w (Yq1w xq10 xq1u xq1l)):=fun x y K=>by kernel_rfl
theorem Iq1w_ok:InstOk Tryz.prog G.1 Iq1w:=iok (gives:=gives) [] (okCons Iq10_ok (okCons Iq1u_ok (okCons Iq1l_ok okNil))) 61 follows Tryz.func82 (by kernel_rfl) (fun x=>by kernel_rfl) (Eq1w Xq10 Xq1u Xq1l)
abbrev Tq0z:Type:=Int→Int→Int→(Int→Bool→Prop)→Prop
def Yq0z (xq1t:Tq1t) (xq22:Tq22) (a0:Int) (a1:Int) (a2:Int) (K:Int→Bool→Prop):Prop :=
 xq1t a0 a1 (fun r3 r4 =>
 (if (!r4) then
 K 0 false
 else
 (if decide (a2 < 1) then
 K 0 false
 else
 (if decide (a2 > r3) then
 K 0 false
 else
 (if decide (a1 < 3) then
 xq22 (w64 (a0 - 1)) 400 (fun r5 r6 r7 =>
 (lt (w64 (w64 (a1+12) - 3)) fun v8 =>
 (lt (w64 (w64 (153 * v8)+2)) fun v9 =>
 (lt (w64 (w64 (Int.tdiv v9 5)+a2)) fun v10 =>
 (lt (w64 (w64 (146097 * r5)+w64 (365 * r6))) fun v11 =>
 (lt (w64 (v11+w64 (Int.tdiv r6 4))) fun v12 =>
 (lt (w64 (v12 - w64 (Int.tdiv r6 100))) fun v13 =>
 (lt (w64 (v13+w64 (v10 - 1))) fun v14 =>
 K (w64 (v14 - 719468)) true))))))))
 else
 xq22 a0 400 (fun r15 r16 r17 =>
 (lt (w64 (153 * w64 (a1 - 3))) fun v18 =>
 (lt (w64 (Int.tdiv (w64 (v18+2)) 5)) fun v19 =>
 (lt (w64 (w64 (v19+a2) - 1)) fun v20 =>
 (lt (w64 (w64 (146097 * r15)+w64 (365 * r16))) fun v21 =>
 (lt (w64 (v21+w64 (Int.tdiv r16 4))) fun v22 =>
 (lt (w64 (v22 - w64 (Int.tdiv r16 100))) fun v23 =>
 (lt (w64 (w64 (v23+v20) - 719468)) fun v24 =>
 K v24 true)))))))))))))
def Xq0z:Tq0z:=Yq0z Xq1t Xq22
def Jq0z (X:Tq0z):Inst:=mkI 83 pL214 .nil pL21 .nil X
def Iq0z:Inst:=Jq0z Xq0z
theorem Eq0z (xq1t:Tq1t) (xq22:Tq22):EqF Tryz.prog 65 gives Tryz.f83 [Jq1t xq1t,Jq22 xq22] [] (Jq0z (Yq0z xq1t xq22)):=fun x y K=>by kernel_rfl
theorem Iq0z_ok:InstOk Tryz.prog G.1 Iq0z:=iok (gives:=gives) [] (okCons Iq1t_ok (okCons Iq22_ok okNil)) 65 follows Tryz.func83 (by kernel_rfl) (fun x=>by kernel_rfl) (Eq0z Xq1t Xq22)
abbrev Tq0i:Type:=Q218→Int→(List Eng.V)→Bool→Int→Int→Int→(Int→Bool→Int→Int→Int→(List Eng.V)→Bool→Bool→Prop)→Prop
def Yq0i (xq1p:Tq1p) (a0:Q218) (a1:Int) (a2:(List Eng.V)) (a3:Bool) (a4:Int) (a5:Int) (a6:Int) (K:Int→Bool→Int→Int→Int→(List Eng.V)→Bool→Bool→Prop):Prop :=
 (if (ByteArray.toList a0.2.2.2.2.2.1 == ByteArray.toList (ByteArray.mk #[(43:UInt8)])) then
 (if (a0.2.2.2.2.1 == 86400) then
 xq1p (a2,a3,a4,()) (a1,1,a0.2.2.2.2.2.2) (fun r7 r8 r9 r10 r11 =>
 K r8 r7.2.1 r7.2.2.1 a5 a6 r9 r10 r11)
 else
 (if (ByteArray.toList a0.2.2.2.2.2.1 == ByteArray.toList (ByteArray.mk #[(45:UInt8)])) then
 (if (a0.2.2.2.2.1 == 86399) then
 xq1p (a2,a3,a4,()) (a1,(-1),a0.2.2.2.2.2.2) (fun r12 r13 r14 r15 r16 =>
 K r13 r12.2.1 r12.2.2.1 a5 a6 r14 r15 r16)
 else
 K 6 a3 a4 a5 a6 a2 false true)
 else
 K 6 a3 a4 a5 a6 a2 false true))
 else
 (if (ByteArray.toList a0.2.2.2.2.2.1 == ByteArray.toList (ByteArray.mk #[(45:UInt8)])) then
 (if (a0.2.2.2.2.1 == 86399) then
 xq1p (a2,a3,a4,()) (a1,(-1),a0.2.2.2.2.2.2) (fun r17 r18 r19 r20 r21 =>
 K r18 r17.2.1 r17.2.2.1 a5 a6 r19 r20 r21)
 else
 K 6 a3 a4 a5 a6 a2 false true)
 else
 K 6 a3 a4 a5 a6 a2 false true))
def Xq0i:Tq0i:=Yq0i Xq1p
def Jq0i (X:Tq0i):Inst:=mkI 84 pL222 pH223 pL2 pH224 X
def Iq0i:Inst:=Jq0i Xq0i
theorem Eq0i (xq1p:Tq1p):EqF Tryz.prog 43 gives Tryz.f84 [Jq1p xq1p] [] (Jq0i (Yq0i xq1p)):=fun x y K=>by kernel_rfl
theorem Iq0i_ok:InstOk Tryz.prog G.1 Iq0i:=iok (gives:=gives) [] (okCons Iq1p_ok okNil) 43 follows Tryz.func84 (by kernel_rfl) (fun x=>by kernel_rfl) (Eq0i Xq1p)
abbrev Tq0e:Type:=Int→(List Eng.V)→(List Eng.V)→Bool→Int→Int→Int→(Int→Bool→Int→Int→Int→(List Eng.V)→Bool→Bool→Prop)→Prop
def Yq0e (xq1w:Tq1w) (xq0z:Tq0z) (xq0i:Tq0i) (a0:Int) (a1:(List Eng.V)) (a2:(List Eng.V)) (a3:Bool) (a4:Int) (a5:Int) (a6:Int) (K:Int→Bool→Int→Int→Int→(List Eng.V)→Bool→Bool→Prop):Prop :=
 xq1w a1 (fun r7 r8 =>
 xq0z r7.2.1 r7.2.2.1 r7.2.2.2.1 (fun r9 r10 =>
 (if (!r8) then
 (if (!r8) then
 K 2 a3 a4 a5 a6 a2 false true
 else
 (if (!r10) then
 K 9 a3 a4 a5 a6 a2 false true
 else
 (if (r7.1 == 0) then
 xq0i r7 r9 a2 a3 a4 a5 a6 (fun r11 r12 r13 r14 r15 r16 r17 r18 =>
 K r11 r12 r13 r14 r15 r16 r17 r18)
 else
 (if (r7.2.2.2.2.1 == 86400) then
 K 9 a3 a4 a5 a6 a2 false true
 else
 (lt (w64 (w64 (r9 * 86400)+r7.2.2.2.2.1)) fun v19 =>
 K 0 a3 a4 a0 v19 a2 false true)))))
 else
 (if (r7.1 == 1) then
 (if decide (a5 > 0) then
 K 2 a3 a4 a5 a6 a2 false true
 else
 (if (!r10) then
 K 9 a3 a4 a5 a6 a2 false true
 else
 (if (r7.1 == 0) then
 xq0i r7 r9 a2 a3 a4 a5 a6 (fun r20 r21 r22 r23 r24 r25 r26 r27 =>
 K r20 r21 r22 r23 r24 r25 r26 r27)
 else
 (if (r7.2.2.2.2.1 == 86400) then
 K 9 a3 a4 a5 a6 a2 false true
 else
 (lt (w64 (w64 (r9 * 86400)+r7.2.2.2.2.1)) fun v28 =>
 K 0 a3 a4 a0 v28 a2 false true)))))
 else
 (if (!r10) then
 K 9 a3 a4 a5 a6 a2 false true
 else
 (if (r7.1 == 0) then
 xq0i r7 r9 a2 a3 a4 a5 a6 (fun r29 r30 r31 r32 r33 r34 r35 r36 =>
 K r29 r30 r31 r32 r33 r34 r35 r36)
 else
 (if (r7.2.2.2.2.1 == 86400) then
 K 9 a3 a4 a5 a6 a2 false true
 else
 (lt (w64 (w64 (r9 * 86400)+r7.2.2.2.2.1)) fun v37 =>
 K 0 a3 a4 a0 v37 a2 false true))))))))
def Xq0e:Tq0e:=Yq0e Xq1w Xq0z Xq0i
def Jq0e (X:Tq0e):Inst:=mkI 50 pL225 pH223 pL2 pH224 X
def Iq0e:Inst:=Jq0e Xq0e
theorem Eq0e (xq1w:Tq1w) (xq0z:Tq0z) (xq0i:Tq0i):EqF Tryz.prog 66 gives Tryz.f50 [Jq1w xq1w,Jq0z xq0z,Jq0i xq0i] [] (Jq0e (Yq0e xq1w xq0z xq0i)):=fun x y K=>by kernel_rfl
theorem Iq0e_ok:InstOk Tryz.prog G.1 Iq0e:=iok (gives:=gives) [] (okCons Iq1w_ok (okCons Iq0z_ok (okCons Iq0i_ok okNil))) 66 follows Tryz.func50 (by kernel_rfl) (fun x=>by kernel_rfl) (Eq0e Xq1w Xq0z Xq0i)
abbrev Tq1d:Type:=ByteArray→(Q58→Q67→(List Eng.V)→Bool→Bool→Prop)→Prop
def Lq1d_0 (xq0x:Tq0x) (xq0u:Tq0u) (xq0e:Tq0e) (xq11:Tq11) (K:Q58→Q67→(List Eng.V)→Bool→Bool→Prop):(Q226→Prop)→Q226→Prop:=fun k4 x5 =>
 (if decide (x5.1.2.2.2.2.2.1 < x5.1.2.2.2.2.1) then
 (if 0≤x5.1.2.2.2.2.2.1∧x5.1.2.2.2.2.2.1 < (↑(List.length x5.2.2.2.2.1.1):Int) then
 (Eng.asStr (Eng.getC x5.2.2.2.2.1.1 (Int.toNat x5.1.2.2.2.2.2.1) (0:Nat)) False fun t6 =>
 xq0x t6 (ByteArray.mk #[(35:UInt8)]) (fun r7 r8 r9 =>
 xq0u r7 (fun r10 r11 r12 =>
 (if ((↑(List.length r10):Int) == 0) then
 k4 (((),(),(),(),x5.1.2.2.2.2.1,w64 (x5.1.2.2.2.2.2.1+1),()),x5.2)
 else
 xq0e (w64 (x5.1.2.2.2.2.2.1+1)) r10 x5.2.2.2.1.1 x5.2.2.2.1.2.1 x5.2.2.2.1.2.2.1 x5.2.2.2.1.2.2.2.1 x5.2.2.2.1.2.2.2.2.1 (fun r13 r14 r15 r16 r17 r18 r19 r20 =>
 (if (r13 != 0) then
 K ((),false,0,()) (w64 (x5.1.2.2.2.2.2.1+1),r13,()) [] true true
 else
 k4 (((),(),(),(),x5.1.2.2.2.2.1,w64 (x5.1.2.2.2.2.2.1+1),()),x5.2.1,x5.2.2.1,(r18,r14,r15,r16,r17,()),x5.2.2.2.2)))))))
 else
 False)
 else
 (if decide (x5.2.2.2.1.2.2.2.1 > 0) then
 xq11 (x5.2.2.2.1.1,true,x5.2.2.2.1.2.2.2.2) (fun r21 =>
 (if (!r21) then
 (
 (dup (
 K ((),false,0,()) (x5.2.2.2.1.2.2.2.1,9,()) [] true true))
 ∧
 K ((),false,0,()) (x5.2.2.2.1.2.2.2.1,9,()) [] true true)
 else
 K ((),true,x5.2.2.2.1.2.2.2.2) (0,0,()) x5.2.2.2.1.1 false true))
 else
 K ((),x5.2.2.2.1.2.1,x5.2.2.2.1.2.2.1,()) (0,0,()) x5.2.2.2.1.1 false true))
def Lq1d_0p:Lp:=⟨7196,[.trim 7196,.thin 560,.trim 7196],pT227,pH228,0⟩
def Yq1d (xq0y:Tq0y) (xq0x:Tq0x) (xq0u:Tq0u) (xq0e:Tq0e) (xq11:Tq11) (a0:ByteArray) (K:Q58→Q67→(List Eng.V)→Bool→Bool→Prop):Prop :=
 xq0y a0 (fun r1 r2 r3 =>
 lp (Lq1d_0 xq0x xq0u xq0e xq11 K) (((),(),(),(),(↑(List.length r1):Int),0,()),([],false,0,()),(0,0,()),([],false,0,0,0,()),(r1,r2,r3),()))
def Xq1d:Tq1d:=Yq1d Xq0y Xq0x Xq0u Xq0e Xq11
def Jq1d (X:Tq1d):Inst:=mkI 16 pL0 .nil pL68 pH49 X
def Iq1d:Inst:=Jq1d Xq1d
theorem Eq1d (xq0y:Tq0y) (xq0x:Tq0x) (xq0u:Tq0u) (xq0e:Tq0e) (xq11:Tq11):EqF Tryz.prog 60 gives Tryz.f16 [Jq0y xq0y,Jq0x xq0x,Jq0u xq0u,Jq0e xq0e,Jq11 xq11] [Lq1d_0p] (Jq1d (Yq1d xq0y xq0x xq0u xq0e xq11)):=fun x y K=>by kernel_rfl
theorem Iq1d_ok:InstOk Tryz.prog G.1 Iq1d:=iok (gives:=gives) [Lq1d_0p] (okCons Iq0y_ok (okCons Iq0x_ok (okCons Iq0u_ok (okCons Iq0e_ok (okCons Iq11_ok okNil))))) 60 follows Tryz.func16 (by kernel_rfl) (fun x=>by kernel_rfl) (Eq1d Xq0y Xq0x Xq0u Xq0e Xq11)
abbrev Tq1f:Type:=ByteArray→Int→(List Eng.V)→(ByteArray→Prop)→Prop
def Yq1f (xq1r:Tq1r) (xq1b:Tq1b) (xitoa:Titoa) (xjoin:Tjoin) (a0:ByteArray) (a1:Int) (a2:(List Eng.V)) (K:ByteArray→Prop):Prop :=
 xq1r a1 (fun r3 r4 r5 r6 =>
 xq1b (fun r7 =>
 (if 0≤w64 (r4 - 1)∧w64 (r4 - 1) < 12 then
 (Eng.asStr ([Eng.V.c (Value.string r7.1),Eng.V.c (Value.string r7.2.1),Eng.V.c (Value.string r7.2.2.1),Eng.V.c (Value.string r7.2.2.2.1),Eng.V.c (Value.string r7.2.2.2.2.1),Eng.V.c (Value.string r7.2.2.2.2.2.1),Eng.V.c (Value.string r7.2.2.2.2.2.2.1),Eng.V.c (Value.string r7.2.2.2.2.2.2.2.1),Eng.V.c (Value.string r7.2.2.2.2.2.2.2.2.1),Eng.V.c (Value.string r7.2.2.2.2.2.2.2.2.2.1),Eng.V.c (Value.string r7.2.2.2.2.2.2.2.2.2.2.1),Eng.V.c (Value.string r7.2.2.2.2.2.2.2.2.2.2.2.1)][Int.toNat (w64 (r4 - 1)) * (1:Nat)]?) False fun t8 =>
 (if (0 :Int)≤3∧3≤(↑(ByteArray.size t8):Int) then
 (if (0 :Int)≤0∧0 < (↑(List.length (Eng.bytesV (ByteArray.extract t8 (0:Nat) (3:Nat)))):Int) then
 (Eng.asInt IntKind.u8 (Eng.getC (Eng.bytesV (ByteArray.extract t8 (0:Nat) (3:Nat))) (0:Nat) (0:Nat)) False fun n9 =>
 (if (0 :Int)≤0∧0 < (↑(List.length (Eng.bytesV (ByteArray.extract t8 (0:Nat) (3:Nat)))):Int) then
 (if (0:Nat) < List.length (Eng.bytesV (ByteArray.extract t8 (0:Nat) (3:Nat))) then
 (lt (List.set (Eng.bytesV (ByteArray.extract t8 (0:Nat) (3:Nat))) (0:Nat) (Eng.setE (List.getD (Eng.bytesV (ByteArray.extract t8 (0:Nat) (3:Nat))) (0:Nat) Eng.V.bad) (0:Nat) [Eng.V.c (Value.int IntKind.u8 (wu8 (n9 - 32)))])) fun v10 =>
 (
 xitoa r3 (fun r11 =>
 (
 (if Eng.allU8 v10 then
 xitoa r5 (fun r12 =>
 (if Eng.roomOk (List.length [Eng.V.c (Value.string a0),Eng.V.c (Value.string r11),Eng.V.c (Value.string (Eng.packB v10)),Eng.V.c (Value.string r12)]+List.length a2) (16:Nat) then
 (lt ([Eng.V.c (Value.string a0),Eng.V.c (Value.string r11),Eng.V.c (Value.string (Eng.packB v10)),Eng.V.c (Value.string r12)]++a2) fun v13 =>
 xjoin v13 (ByteArray.mk #[(9:UInt8)]) (fun r14 =>
 (if (↑(ByteArray.size r14+(1:Nat)):Int) > 9223372036854775807 then
 False
 else
 K (r14++ByteArray.mk #[(10:UInt8)]))))
 else
 False))
 else
 False)
 ∧
 xitoa r5 (fun r15 =>
 (if Eng.allU8 v10 then
 (if Eng.roomOk (List.length [Eng.V.c (Value.string a0),Eng.V.c (Value.string r11),Eng.V.c (Value.string (Eng.packB v10)),Eng.V.c (Value.string r15)]+List.length a2) (16:Nat) then
 (lt ([Eng.V.c (Value.string a0),Eng.V.c (Value.string r11),Eng.V.c (Value.string (Eng.packB v10)),Eng.V.c (Value.string r15)]++a2) fun v16 =>
 xjoin v16 (ByteArray.mk #[(9:UInt8)]) (fun r17 =>
 (if (↑(ByteArray.size r17+(1:Nat)):Int) > 9223372036854775807 then
 False
 else
 K (r17++ByteArray.mk #[(10:UInt8)]))))
 else
 False)
 else
 False))))
 ∧
 (if Eng.allU8 v10 then
 xitoa r3 (fun r18 =>
 xitoa r5 (fun r19 =>
 (if Eng.roomOk (List.length [Eng.V.c (Value.string a0),Eng.V.c (Value.string r18),Eng.V.c (Value.string (Eng.packB v10)),Eng.V.c (Value.string r19)]+List.length a2) (16:Nat) then
 (lt ([Eng.V.c (Value.string a0),Eng.V.c (Value.string r18),Eng.V.c (Value.string (Eng.packB v10)),Eng.V.c (Value.string r19)]++a2) fun v20 =>
 xjoin v20 (ByteArray.mk #[(9:UInt8)]) (fun r21 =>
 (if (↑(ByteArray.size r21+(1:Nat)):Int) > 9223372036854775807 then
 False
 else
 K (r21++ByteArray.mk #[(10:UInt8)]))))
 else
 False)))
 else
 False)))
 else
 False)
 else
 False))
 else
 False)
 else
 False))
 else
 False)))
def Xq1f:Tq1f:=Yq1f Xq1r Xq1b Xitoa Xjoin
def Jq1f (X:Tq1f):Inst:=mkI 46 pL229 .nil pL0 .nil X
def Iq1f:Inst:=Jq1f Xq1f
theorem Eq1f (xq1r:Tq1r) (xq1b:Tq1b) (xitoa:Titoa) (xjoin:Tjoin):EqF Tryz.prog 44 gives Tryz.f46 [Jq1r xq1r,Jq1b xq1b,Jitoa xitoa,Jjoin xjoin] [] (Jq1f (Yq1f xq1r xq1b xitoa xjoin)):=fun x y K=>by kernel_rfl
theorem Iq1f_ok:InstOk Tryz.prog G.1 Iq1f:=iok (gives:=gives) [] (okCons Iq1r_ok (okCons Iq1b_ok (okCons Iitoa_ok (okCons Ijoin_ok okNil)))) 44 follows Tryz.func46 (by kernel_rfl) (fun x=>by kernel_rfl) (Eq1f Xq1r Xq1b Xitoa Xjoin)
abbrev Tq0v:Type:=Int→(Int→Int→Int→Bool→Prop)→Prop
def Yq0v (a0:Int) (K:Int→Int→Int→Bool→Prop):Prop :=
 (if decide (a0 < 0) then
 K 0 0 0 false
 else
 (if decide (a0 > 86400) then
 K 0 0 0 false
 else
 (if (a0 == 86400) then
 K 23 59 60 true
 else
 K (w64 (Int.tdiv a0 3600)) (Int.tmod (w64 (Int.tdiv a0 60)) 60) (Int.tmod a0 60) true)))
def Xq0v:Tq0v:=Yq0v
def Jq0v (X:Tq0v):Inst:=mkI 79 pL2 .nil pL50 .nil X
def Iq0v:Inst:=Jq0v Xq0v
theorem Eq0v:EqF Tryz.prog 23 gives Tryz.f79 [] [] (Jq0v (Yq0v)):=fun x y K=>by kernel_rfl
theorem Iq0v_ok:InstOk Tryz.prog G.1 Iq0v:=iok (gives:=gives) [] okNil 23 follows Tryz.func79 (by kernel_rfl) (fun x=>by kernel_rfl) (Eq0v)
abbrev Tq15:Type:=ByteArray→(List Eng.V)→Bool→Bool→(ByteArray→Prop)→Prop
def Lq15_0 (K:ByteArray→Prop) (a1:(List Eng.V)) (a2:Bool) (a3:Bool):(Q230→Prop)→Q230→Prop:=fun k4 x5 =>
 (if decide (x5.1.2.2.2.2.1≥0) then
 (if 0≤x5.1.2.2.2.2.1∧x5.1.2.2.2.2.1 < (↑(List.length x5.2.2.1):Int) then
 (Eng.asInt IntKind.u8 (Eng.getC x5.2.2.1 (Int.toNat x5.1.2.2.2.2.1) (0:Nat)) False fun n6 =>
 (if (n6 != 48) then
 k4 (((),x5.1.2.1,(),w64 (x5.1.2.2.2.1 - 1),w64 (x5.1.2.2.2.2.1 - 1),()),x5.2)
 else
 (if 0≤x5.1.2.2.2.2.1∧x5.1.2.2.2.2.1 < (↑(List.length x5.2.2.1):Int) then
 (Eng.asInt IntKind.u8 (Eng.getC x5.2.2.1 (Int.toNat x5.1.2.2.2.2.1) (0:Nat)) False fun n7 =>
 (if 0≤x5.1.2.2.2.1∧x5.1.2.2.2.1 < (↑(List.length x5.2.1.1):Int) then
 (Eng.asInt IntKind.i64 (Eng.getC x5.2.1.1 (Int.toNat x5.1.2.2.2.1) (0:Nat)) False fun n8 =>
 (lt (wu8 (n7+wu8 (Int.tmod n8 10))) fun v9 =>
 (if 0≤x5.1.2.2.2.2.1∧x5.1.2.2.2.2.1 < (↑(List.length x5.2.2.1):Int) then
 (if Int.toNat x5.1.2.2.2.2.1 < List.length x5.2.2.1 then
 (if 0≤x5.1.2.2.2.1∧x5.1.2.2.2.1 < (↑(List.length x5.2.1.1):Int) then
 (Eng.asInt IntKind.i64 (Eng.getC x5.2.1.1 (Int.toNat x5.1.2.2.2.1) (0:Nat)) False fun n10 =>
 (if 0≤x5.1.2.2.2.1∧x5.1.2.2.2.1 < (↑(List.length x5.2.1.1):Int) then
 (if x5.2.1.2.2=false then
 (if Int.toNat x5.1.2.2.2.1 < List.length x5.2.1.1 then
 (lt (List.set x5.2.1.1 (Int.toNat x5.1.2.2.2.1) (Eng.setE (List.getD x5.2.1.1 (Int.toNat x5.1.2.2.2.1) Eng.V.bad) (0:Nat) [Eng.V.c (Value.int IntKind.i64 (w64 (Int.tdiv n10 10)))])) fun v11 =>
 k4 (((),x5.1.2.1,(),x5.1.2.2.2.1,w64 (x5.1.2.2.2.2.1 - 1),()),(v11,x5.2.1.2),List.set x5.2.2.1 (Int.toNat x5.1.2.2.2.2.1) (Eng.setE (List.getD x5.2.2.1 (Int.toNat x5.1.2.2.2.2.1) Eng.V.bad) (0:Nat) [Eng.V.c (Value.int IntKind.u8 v9)]),()))
 else
 False)
 else
 False)
 else
 False))
 else
 False)
 else
 False)
 else
 False)))
 else
 False))
 else
 False)))
 else
 False)
 else
 (if Eng.allU8 x5.2.2.1 then
 K (Eng.packB x5.2.2.1)
 else
 False))
def Lq15_0p:Lp:=⟨242,[.trim 242],pT231,pH232,0⟩
def Yq15 (a0:ByteArray) (a1:(List Eng.V)) (a2:Bool) (a3:Bool) (K:ByteArray→Prop):Prop :=
 lp (Lq15_0 K a1 a2 a3) (((),ByteArray.mk #[],(),w64 ((↑(List.length a1):Int) - 1),w64 ((↑(List.length (Eng.bytesV a0)):Int) - 1),()),(a1,a2,a3),Eng.bytesV a0,())
def Xq15:Tq15:=Yq15
def Jq15 (X:Tq15):Inst:=mkI 80 pL233 pH8 pL0 .nil X
def Iq15:Inst:=Jq15 Xq15
theorem Eq15:EqF Tryz.prog 47 gives Tryz.f80 [] [Lq15_0p] (Jq15 (Yq15)):=fun x y K=>by kernel_rfl
theorem Iq15_ok:InstOk Tryz.prog G.1 Iq15:=iok (gives:=gives) [Lq15_0p] okNil 47 follows Tryz.func80 (by kernel_rfl) (fun x=>by kernel_rfl) (Eq15)
abbrev Tq12:Type:=Int→Int→(ByteArray→Bool→Prop)→Prop
def Yq12 (xq1r:Tq1r) (xq0v:Tq0v) (xq15:Tq15) (a0:Int) (a1:Int) (K:ByteArray→Bool→Prop):Prop :=
 xq1r a0 (fun r2 r3 r4 r5 =>
 xq0v a1 (fun r6 r7 r8 r9 =>
 (if (!r5) then
 K (ByteArray.mk #[]) false
 else
 (if (!r9) then
 K (ByteArray.mk #[]) false
 else
 xq15 (ByteArray.extract (ByteArray.mk #[(48:UInt8),(48:UInt8),(48:UInt8),(48:UInt8),(45:UInt8),(48:UInt8),(48:UInt8),(45:UInt8),(48:UInt8),(48:UInt8),(84:UInt8),(48:UInt8),(48:UInt8),(58:UInt8),(48:UInt8),(48:UInt8),(58:UInt8),(48:UInt8),(48:UInt8),(90:UInt8)]) (0:Nat) (19:Nat)) ([Eng.V.c (Value.int IntKind.i64 r2),Eng.V.c (Value.int IntKind.i64 r3),Eng.V.c (Value.int IntKind.i64 r4),Eng.V.c (Value.int IntKind.i64 r6),Eng.V.c (Value.int IntKind.i64 r7),Eng.V.c (Value.int IntKind.i64 r8)]) true false (fun r10 =>
 (if (↑(ByteArray.size r10+(1:Nat)):Int) > 9223372036854775807 then
 False
 else
 (lt (r10++ByteArray.extract (ByteArray.mk #[(48:UInt8),(48:UInt8),(48:UInt8),(48:UInt8),(45:UInt8),(48:UInt8),(48:UInt8),(45:UInt8),(48:UInt8),(48:UInt8),(84:UInt8),(48:UInt8),(48:UInt8),(58:UInt8),(48:UInt8),(48:UInt8),(58:UInt8),(48:UInt8),(48:UInt8),(90:UInt8)]) (19:Nat) (20:Nat)) fun v11 =>
 K v11 true)))))))
def Xq12:Tq12:=Yq12 Xq1r Xq0v Xq15
def Jq12 (X:Tq12):Inst:=mkI 47 pL20 .nil pL126 .nil X
def Iq12:Inst:=Jq12 Xq12
theorem Eq12 (xq1r:Tq1r) (xq0v:Tq0v) (xq15:Tq15):EqF Tryz.prog 45 gives Tryz.f47 [Jq1r xq1r,Jq0v xq0v,Jq15 xq15] [] (Jq12 (Yq12 xq1r xq0v xq15)):=fun x y K=>by kernel_rfl
theorem Iq12_ok:InstOk Tryz.prog G.1 Iq12:=iok (gives:=gives) [] (okCons Iq1r_ok (okCons Iq0v_ok (okCons Iq15_ok okNil))) 45 follows Tryz.func47 (by kernel_rfl) (fun x=>by kernel_rfl) (Eq12 Xq1r Xq0v Xq15)
abbrev Tq1o:Type:=Q53→(ByteArray→Bool→Prop)→Prop
def Lq1o_0 (xq1f:Tq1f) (xq12:Tq12) (K:ByteArray→Bool→Prop):(Q234→Prop)→Q234→Prop:=fun k2 x3 =>
 (if decide (x3.1.2.2.2.2.2.1 < x3.1.2.2.2.2.1) then
 (if 0≤x3.1.2.2.2.2.2.1∧x3.1.2.2.2.2.2.1 < (↑(List.length x3.1.2.2.2.1):Int) then
 (Eng.asInt IntKind.i64 (Eng.getC x3.1.2.2.2.1 (Int.toNat x3.1.2.2.2.2.2.1) (0:Nat)) False fun n4 =>
 (Eng.asInt IntKind.i64 (Eng.getC x3.1.2.2.2.1 (Int.toNat x3.1.2.2.2.2.2.1) (1:Nat)) False fun n5 =>
 (Eng.asBool (Eng.getC x3.1.2.2.2.1 (Int.toNat x3.1.2.2.2.2.2.1) (2:Nat)) False fun b6 =>
 (if decide (n5 < 0) then
 (if b6 then
 xq1f (ByteArray.mk #[(76:UInt8),(101:UInt8),(97:UInt8),(112:UInt8)]) n4 ([Eng.V.c (Value.string (ByteArray.mk #[(50:UInt8),(51:UInt8),(58:UInt8),(53:UInt8),(57:UInt8),(58:UInt8),(53:UInt8),(57:UInt8)])),Eng.V.c (Value.string (ByteArray.mk #[(45:UInt8)])),Eng.V.c (Value.string (ByteArray.mk #[(82:UInt8)]))]) (fun r7 =>
 (if (↑(ByteArray.size x3.1.2.1+ByteArray.size r7):Int) > 9223372036854775807 then
 False
 else
 k2 (((),x3.1.2.1++r7,x3.1.2.2.1,x3.1.2.2.2.1,x3.1.2.2.2.2.1,w64 (x3.1.2.2.2.2.2.1+1),()),x3.2)))
 else
 xq1f (ByteArray.mk #[(76:UInt8),(101:UInt8),(97:UInt8),(112:UInt8)]) n4 ([Eng.V.c (Value.string (ByteArray.mk #[(50:UInt8),(51:UInt8),(58:UInt8),(53:UInt8),(57:UInt8),(58:UInt8),(53:UInt8),(57:UInt8)])),Eng.V.c (Value.string (ByteArray.mk #[(45:UInt8)])),Eng.V.c (Value.string (ByteArray.mk #[(83:UInt8)]))]) (fun r8 =>
 (if (↑(ByteArray.size x3.1.2.1+ByteArray.size r8):Int) > 9223372036854775807 then
 False
 else
 k2 (((),x3.1.2.1++r8,x3.1.2.2.1,x3.1.2.2.2.1,x3.1.2.2.2.2.1,w64 (x3.1.2.2.2.2.2.1+1),()),x3.2))))
 else
 (if b6 then
 xq1f (ByteArray.mk #[(76:UInt8),(101:UInt8),(97:UInt8),(112:UInt8)]) n4 ([Eng.V.c (Value.string (ByteArray.mk #[(50:UInt8),(51:UInt8),(58:UInt8),(53:UInt8),(57:UInt8),(58:UInt8),(54:UInt8),(48:UInt8)])),Eng.V.c (Value.string (ByteArray.mk #[(43:UInt8)])),Eng.V.c (Value.string (ByteArray.mk #[(82:UInt8)]))]) (fun r9 =>
 (if (↑(ByteArray.size x3.1.2.1+ByteArray.size r9):Int) > 9223372036854775807 then
 False
 else
 k2 (((),x3.1.2.1++r9,x3.1.2.2.1,x3.1.2.2.2.1,x3.1.2.2.2.2.1,w64 (x3.1.2.2.2.2.2.1+1),()),x3.2)))
 else
 xq1f (ByteArray.mk #[(76:UInt8),(101:UInt8),(97:UInt8),(112:UInt8)]) n4 ([Eng.V.c (Value.string (ByteArray.mk #[(50:UInt8),(51:UInt8),(58:UInt8),(53:UInt8),(57:UInt8),(58:UInt8),(54:UInt8),(48:UInt8)])),Eng.V.c (Value.string (ByteArray.mk #[(43:UInt8)])),Eng.V.c (Value.string (ByteArray.mk #[(83:UInt8)]))]) (fun r10 =>
 (if (↑(ByteArray.size x3.1.2.1+ByteArray.size r10):Int) > 9223372036854775807 then
 False
 else
 k2 (((),x3.1.2.1++r10,x3.1.2.2.1,x3.1.2.2.2.1,x3.1.2.2.2.2.1,w64 (x3.1.2.2.2.2.2.1+1),()),x3.2))))))))
 else
 False)
 else
 (if x3.2.1.2.1 then
 xq12 (w64 (Int.tdiv x3.2.1.2.2.1 86400)) (Int.tmod x3.2.1.2.2.1 86400) (fun r11 r12 =>
 (if (0 :Int)≤19∧19≤(↑(ByteArray.size r11):Int) then
 xq1f (ByteArray.mk #[(69:UInt8),(120:UInt8),(112:UInt8),(105:UInt8),(114:UInt8),(101:UInt8),(115:UInt8)]) (w64 (Int.tdiv x3.2.1.2.2.1 86400)) ([Eng.V.c (Value.string (ByteArray.extract r11 (11:Nat) (19:Nat)))]) (fun r13 =>
 (if (↑(ByteArray.size x3.1.2.1+ByteArray.size r13):Int) > 9223372036854775807 then
 False
 else
 K (x3.1.2.1++r13) true))
 else
 False))
 else
 K x3.1.2.1 true))
def Lq1o_0p:Lp:=⟨229390,[.trim 229390],pT235,pH56,0⟩
def Yq1o (xq11:Tq11) (xq1f:Tq1f) (xq12:Tq12) (a0:Q53) (K:ByteArray→Bool→Prop):Prop :=
 xq11 a0 (fun r1 =>
 (if (!r1) then
 K (ByteArray.mk #[]) false
 else
 lp (Lq1o_0 xq1f xq12 K) (((),ByteArray.mk #[],false,a0.1,(↑(List.length a0.1):Int),0,()),a0,())))
def Xq1o:Tq1o:=Yq1o Xq11 Xq1f Xq12
def Jq1o (X:Tq1o):Inst:=mkI 15 pL57 .nil pL126 .nil X
def Iq1o:Inst:=Jq1o Xq1o
theorem Eq1o (xq11:Tq11) (xq1f:Tq1f) (xq12:Tq12):EqF Tryz.prog 58 gives Tryz.f15 [Jq11 xq11,Jq1f xq1f,Jq12 xq12] [Lq1o_0p] (Jq1o (Yq1o xq11 xq1f xq12)):=fun x y K=>by kernel_rfl
theorem Iq1o_ok:InstOk Tryz.prog G.1 Iq1o:=iok (gives:=gives) [Lq1o_0p] (okCons Iq11_ok (okCons Iq1f_ok (okCons Iq12_ok okNil))) 58 follows Tryz.func15 (by kernel_rfl) (fun x=>by kernel_rfl) (Eq1o Xq11 Xq1f Xq12)
abbrev Tq0d:Type:=(Bool→Prop)→Prop
def Yq0d (xq1d:Tq1d) (xq1o:Tq1o) (xq1k:Tq1k) (xq1h:Tq1h) (xq0f:Tq0f) (K:Bool→Prop):Prop :=
 xq1d (ByteArray.mk (List.toArray (List.append [(35:UInt8),(32:UInt8),(120:UInt8),(10:UInt8),(76:UInt8),(101:UInt8),(97:UInt8),(112:UInt8),(9:UInt8),(49:UInt8),(57:UInt8),(55:UInt8),(50:UInt8),(9:UInt8),(74:UInt8),(117:UInt8),(110:UInt8),(9:UInt8),(51:UInt8),(48:UInt8),(9:UInt8),(50:UInt8),(51:UInt8),(58:UInt8),(53:UInt8),(57:UInt8),(58:UInt8),(54:UInt8),(48:UInt8),(9:UInt8),(43:UInt8),(9:UInt8),(83:UInt8),(32:UInt8),(35:UInt8),(32:UInt8),(121:UInt8),(10:UInt8),(10:UInt8),(108:UInt8),(101:UInt8),(97:UInt8),(112:UInt8),(32:UInt8),(49:UInt8),(57:UInt8),(55:UInt8),(50:UInt8),(32:UInt8),(68:UInt8),(69:UInt8),(67:UInt8)] [(69:UInt8),(77:UInt8),(66:UInt8),(69:UInt8),(82:UInt8),(32:UInt8),(51:UInt8),(49:UInt8),(32:UInt8),(50:UInt8),(51:UInt8),(58:UInt8),(53:UInt8),(57:UInt8),(58:UInt8),(53:UInt8),(57:UInt8),(32:UInt8),(45:UInt8),(32:UInt8),(114:UInt8),(111:UInt8),(108:UInt8),(108:UInt8),(10:UInt8),(69:UInt8),(120:UInt8),(112:UInt8),(105:UInt8),(114:UInt8),(101:UInt8),(115:UInt8),(32:UInt8),(49:UInt8),(57:UInt8),(55:UInt8),(52:UInt8),(32:UInt8),(74:UInt8),(97:UInt8),(110:UInt8),(32:UInt8),(49:UInt8),(32:UInt8),(48:UInt8),(58:UInt8),(48:UInt8),(48:UInt8),(58:UInt8),(48:UInt8),(53:UInt8),(10:UInt8)]))) (fun r0 r1 r2 r3 r4 =>
 xq1d (ByteArray.mk #[(76:UInt8),(101:UInt8),(97:UInt8),(112:UInt8),(32:UInt8),(49:UInt8),(57:UInt8),(55:UInt8),(50:UInt8),(32:UInt8),(74:UInt8),(117:UInt8),(110:UInt8),(32:UInt8),(51:UInt8),(48:UInt8),(32:UInt8),(50:UInt8),(51:UInt8),(58:UInt8),(53:UInt8),(57:UInt8),(58:UInt8),(53:UInt8),(57:UInt8),(32:UInt8),(43:UInt8),(32:UInt8),(83:UInt8)]) (fun r5 r6 r7 r8 r9 =>
 xq1d (ByteArray.mk #[(10:UInt8),(76:UInt8),(101:UInt8),(97:UInt8),(112:UInt8),(32:UInt8),(49:UInt8),(57:UInt8),(55:UInt8),(50:UInt8),(32:UInt8),(74:UInt8),(117:UInt8),(110:UInt8),(32:UInt8),(50:UInt8),(57:UInt8),(32:UInt8),(50:UInt8),(51:UInt8),(58:UInt8),(53:UInt8),(57:UInt8),(58:UInt8),(54:UInt8),(48:UInt8),(32:UInt8),(43:UInt8),(32:UInt8),(83:UInt8)]) (fun r10 r11 r12 r13 r14 =>
 xq1d (ByteArray.mk #[(76:UInt8),(101:UInt8),(97:UInt8),(112:UInt8),(32:UInt8),(49:UInt8),(57:UInt8),(55:UInt8),(50:UInt8),(32:UInt8),(74:UInt8),(117:UInt8),(110:UInt8),(32:UInt8),(51:UInt8),(49:UInt8),(32:UInt8),(50:UInt8),(51:UInt8),(58:UInt8),(53:UInt8),(57:UInt8),(58:UInt8),(54:UInt8),(48:UInt8),(32:UInt8),(43:UInt8),(32:UInt8),(83:UInt8)]) (fun r15 r16 r17 r18 r19 =>
 xq1d (ByteArray.mk #[(76:UInt8),(101:UInt8),(97:UInt8),(112:UInt8),(32:UInt8),(49:UInt8),(57:UInt8),(55:UInt8),(50:UInt8),(32:UInt8),(74:UInt8),(117:UInt8),(32:UInt8),(51:UInt8),(48:UInt8),(32:UInt8),(50:UInt8),(51:UInt8),(58:UInt8),(53:UInt8),(57:UInt8),(58:UInt8),(54:UInt8),(48:UInt8),(32:UInt8),(43:UInt8),(32:UInt8),(83:UInt8)]) (fun r20 r21 r22 r23 r24 =>
 xq1d (ByteArray.mk #[(69:UInt8),(120:UInt8),(112:UInt8),(105:UInt8),(114:UInt8),(101:UInt8),(115:UInt8),(32:UInt8),(49:UInt8),(57:UInt8),(55:UInt8),(51:UInt8),(32:UInt8),(74:UInt8),(97:UInt8),(110:UInt8),(32:UInt8),(49:UInt8),(32:UInt8),(48:UInt8),(58:UInt8),(48:UInt8),(58:UInt8),(48:UInt8),(10:UInt8),(69:UInt8),(120:UInt8),(112:UInt8),(105:UInt8),(114:UInt8),(101:UInt8),(115:UInt8),(32:UInt8),(49:UInt8),(57:UInt8),(55:UInt8),(51:UInt8),(32:UInt8),(74:UInt8),(97:UInt8),(110:UInt8),(32:UInt8),(49:UInt8),(32:UInt8),(48:UInt8),(58:UInt8),(48:UInt8),(58:UInt8),(48:UInt8)]) (fun r25 r26 r27 r28 r29 =>
 xq1o ([Eng.V.agg [Eng.V.c (Value.int IntKind.i64 911),Eng.V.c (Value.int IntKind.i64 1),Eng.V.c (Value.bool false)],Eng.V.agg [Eng.V.c (Value.int IntKind.i64 1095),Eng.V.c (Value.int IntKind.i64 (-1)),Eng.V.c (Value.bool true)]],true,126230405,()) (fun r30 r31 =>
 xq1d r30 (fun r32 r33 r34 r35 r36 =>
 xq1k (ByteArray.mk #[(115:UInt8),(69:UInt8),(112:UInt8),(116:UInt8)]) (fun r37 r38 =>
 xq1k (ByteArray.mk #[(109:UInt8),(97:UInt8)]) (fun r39 r40 =>
 xq1h (ByteArray.mk #[(49:UInt8),(58:UInt8),(50:UInt8),(58:UInt8),(51:UInt8)]) (fun r41 r42 =>
 xq1h (ByteArray.mk #[(49:UInt8),(58:UInt8),(50:UInt8)]) (fun r43 r44 =>
 xq1h (ByteArray.mk #[(48:UInt8),(48:UInt8),(49:UInt8),(58:UInt8),(50:UInt8),(58:UInt8),(51:UInt8)]) (fun r45 r46 =>
 xq0f (r2,r0.2) ([Eng.V.agg [Eng.V.c (Value.int IntKind.i64 911),Eng.V.c (Value.int IntKind.i64 1),Eng.V.c (Value.bool false)],Eng.V.agg [Eng.V.c (Value.int IntKind.i64 1095),Eng.V.c (Value.int IntKind.i64 (-1)),Eng.V.c (Value.bool true)]],true,126230405,()) (fun r47 =>
 (if r47 then
 (if (r1.1 == 0 && (r1.2.1 == 0 && true)) then
 (if (r6.1 == 1 && (r6.2.1 == 6 && true)) then
 (if (r11.1 == 2 && (r11.2.1 == 5 && true)) then
 (if (r16.1 == 1 && (r16.2.1 == 9 && true)) then
 (if (r21.1 == 1 && (r21.2.1 == 2 && true)) then
 (if (r26.1 == 2 && (r26.2.1 == 2 && true)) then
 (if r31 then
 xq0f (r34,r32.2) ([Eng.V.agg [Eng.V.c (Value.int IntKind.i64 911),Eng.V.c (Value.int IntKind.i64 1),Eng.V.c (Value.bool false)],Eng.V.agg [Eng.V.c (Value.int IntKind.i64 1095),Eng.V.c (Value.int IntKind.i64 (-1)),Eng.V.c (Value.bool true)]],true,126230405,()) (fun r48 =>
 (if r48 then
 (if (r33.1 == 0 && (r33.2.1 == 0 && true)) then
 (lt (ByteArray.toList r30 == ByteArray.toList (ByteArray.mk (List.toArray (List.append [(76:UInt8),(101:UInt8),(97:UInt8),(112:UInt8),(9:UInt8),(49:UInt8),(57:UInt8),(55:UInt8),(50:UInt8),(9:UInt8),(74:UInt8),(117:UInt8),(110:UInt8),(9:UInt8),(51:UInt8),(48:UInt8),(9:UInt8),(50:UInt8),(51:UInt8),(58:UInt8),(53:UInt8),(57:UInt8),(58:UInt8),(54:UInt8),(48:UInt8),(9:UInt8),(43:UInt8),(9:UInt8),(83:UInt8),(10:UInt8),(76:UInt8),(101:UInt8),(97:UInt8),(112:UInt8),(9:UInt8),(49:UInt8),(57:UInt8),(55:UInt8),(50:UInt8),(9:UInt8),(68:UInt8),(101:UInt8),(99:UInt8),(9:UInt8)] [(51:UInt8),(49:UInt8),(9:UInt8),(50:UInt8),(51:UInt8),(58:UInt8),(53:UInt8),(57:UInt8),(58:UInt8),(53:UInt8),(57:UInt8),(9:UInt8),(45:UInt8),(9:UInt8),(82:UInt8),(10:UInt8),(69:UInt8),(120:UInt8),(112:UInt8),(105:UInt8),(114:UInt8),(101:UInt8),(115:UInt8),(9:UInt8),(49:UInt8),(57:UInt8),(55:UInt8),(52:UInt8),(9:UInt8),(74:UInt8),(97:UInt8),(110:UInt8),(9:UInt8),(49:UInt8),(9:UInt8),(48:UInt8),(48:UInt8),(58:UInt8),(48:UInt8),(48:UInt8),(58:UInt8),(48:UInt8),(53:UInt8),(10:UInt8)])))) fun v49 =>
 (if v49 then
 (if (r37 == 9) then
 (if r38 then
 (if (!r40) then
 (if (r41 == 3723) then
 (if r42 then
 (if (!r44) then
 K !r46
 else
 K false)
 else
 K false)
 else
 K false)
 else
 K false)
 else
 K false)
 else
 K false)
 else
 K false))
 else
 K false)
 else
 K false))
 else
 K false)
 else
 K false)
 else
 K false)
 else
 K false)
 else
 K false)
 else
 K false)
 else
 K false)
 else
 K false)))))))))))))))
def Xq0d:Tq0d:=Yq0d Xq1d Xq1o Xq1k Xq1h Xq0f
def Jq0d (X:Tq0d):Inst:=mkI 14 .nil .nil pL9 .nil X
def Iq0d:Inst:=Jq0d Xq0d
theorem Eq0d (xq1d:Tq1d) (xq1o:Tq1o) (xq1k:Tq1k) (xq1h:Tq1h) (xq0f:Tq0f):EqF Tryz.prog 162 gives Tryz.f14 [Jq1d xq1d,Jq1o xq1o,Jq1k xq1k,Jq1h xq1h,Jq0f xq0f] [] (Jq0d (Yq0d xq1d xq1o xq1k xq1h xq0f)):=fun x y K=>by kernel_rfl
theorem Iq0d_ok:InstOk Tryz.prog G.1 Iq0d:=iok (gives:=gives) [] (okCons Iq1d_ok (okCons Iq1o_ok (okCons Iq1k_ok (okCons Iq1h_ok (okCons Iq0f_ok okNil))))) 162 follows Tryz.func14 (by kernel_rfl) (fun x=>by kernel_rfl) (Eq0d Xq1d Xq1o Xq1k Xq1h Xq0f)
abbrev Tq09:Type:=Q53→Int→(Bool→Prop)→Prop
def Yq09 (xq0d:Tq0d) (xq0m:Tq0m) (xq1i:Tq1i) (xq1o:Tq1o) (xq16:Tq16) (xq1d:Tq1d) (xq0f:Tq0f) (a0:Q53) (a1:Int) (K:Bool→Prop):Prop :=
 xq0d (fun r2 =>
 xq0m a0 (fun r3 =>
 (if (!r3) then
 K r2
 else
 (if decide (a1 < 0) then
 K r2
 else
 xq1i a0 a1 (fun r4 r5 =>
 xq1o a0 (fun r6 r7 =>
 (if (!r5) then
 K r2
 else
 xq16 r4 (fun r8 r9 r10 r11 r12 =>
 xq1d r6 (fun r13 r14 r15 r16 r17 =>
 (if r2 then
 (if r7 then
 (if (r9.2.1 == 0) then
 (if (r14.2.1 == 0) then
 xq0f (r10,r8.2) (r15,r13.2) (fun r18 =>
 K r18)
 else
 K false)
 else
 K false)
 else
 K false)
 else
 K false))))))))))
def Xq09:Tq09:=Yq09 Xq0d Xq0m Xq1i Xq1o Xq16 Xq1d Xq0f
def Jq09 (X:Tq09):Inst:=mkI 4 pL125 .nil pL9 .nil X
def Iq09:Inst:=Jq09 Xq09
theorem Eq09 (xq0d:Tq0d) (xq0m:Tq0m) (xq1i:Tq1i) (xq1o:Tq1o) (xq16:Tq16) (xq1d:Tq1d) (xq0f:Tq0f):EqF Tryz.prog 68 gives Tryz.f4 [Jq0d xq0d,Jq0m xq0m,Jq1i xq1i,Jq1o xq1o,Jq16 xq16,Jq1d xq1d,Jq0f xq0f] [] (Jq09 (Yq09 xq0d xq0m xq1i xq1o xq16 xq1d xq0f)):=fun x y K=>by kernel_rfl
theorem Iq09_ok:InstOk Tryz.prog G.1 Iq09:=iok (gives:=gives) [] (okCons Iq0d_ok (okCons Iq0m_ok (okCons Iq1i_ok (okCons Iq1o_ok (okCons Iq16_ok (okCons Iq1d_ok (okCons Iq0f_ok okNil))))))) 68 follows Tryz.func4 (by kernel_rfl) (fun x=>by kernel_rfl) (Eq09 Xq0d Xq0m Xq1i Xq1o Xq16 Xq1d Xq0f)
end Go.Proofs.YtdjldmolhkkipaaGreatDoor
end
section
set_option linter.unusedVariables false
set_option linter.unusedSimpArgs false
namespace Go.Proofs.YtdjldmolhkkipaaGreatDoor
open Go Go.Proofs.YtdjldmolhkkipaaGreatDoor.Eng
abbrev akZicLists0:AK:=(.st (.cons (.sl (.st (.cons (.int .i64) (.cons (.int .i64) (.cons .bool .nil))))) (.cons .bool (.cons (.int .i64) .nil))))
abbrev akZicLists1:AK:=(.int .i64)
def PureZicLists:Prop:=∀ (a0:akZicLists0.T) (h0:akZicLists0.good a0) (a1:akZicLists1.T) (h1:akZicLists1.good a1),Xq09 (akZicLists0.DV a0) (akZicLists1.DV a1) (fun b=>b=true)
end Go.Proofs.YtdjldmolhkkipaaGreatDoor
end
section
set_option linter.unusedVariables false
set_option linter.unusedSimpArgs false
namespace Go.Proofs.YtdjldmolhkkipaaGreatDoor.Pl
open Go
def digsN:Nat→Nat→List UInt8
 | 0,_=>[]
 | k+1,u=>if u < 10 then [UInt8.ofNat (48+u)] else digsN k (u / 10)++[UInt8.ofNat (48+u % 10)]
theorem digsN_eq:∀ k u,u < 10 ^ (k+1)→digsN (k+1) u=Lib.decDigits u
 | 0,u,h=>by rw [Lib.decDigits,digsN,if_pos (by simpa using h),dif_pos (by simpa using h)]
 | k+1,u,h=>by
  rw [Lib.decDigits,digsN]
  by_cases h1:u < 10
  ·rw [if_pos h1,dif_pos h1]
  ·rw [if_neg h1,dif_neg h1,digsN_eq k (u / 10) (by rw [Nat.pow_succ] at h; omega)]
def itoaK (n:Int):List UInt8:=if n < 0 then 45 :: digsN 20 n.natAbs else digsN 20 n.toNat
theorem itoaK_eq (n:Int) (h0:-9223372036854775808≤n) (h1:n≤9223372036854775807):itoaK n=Lib.itoa n:=by
 unfold itoaK Lib.itoa
 split
 ·rw [digsN_eq 19 _ (by omega)]
 ·rw [digsN_eq 19 _ (by omega)]
def isDig (c:UInt8):Bool:=48≤c.toNat && c.toNat≤57
abbrev S (l:List UInt8):ByteArray:=⟨l.toArray⟩
theorem S_size (l:List UInt8):(S l).size=l.length:=by simp [S,ByteArray.size]
theorem S_append (a b:List UInt8):S a++S b=S (a++b):=ByteArray.mk_append_mk a b
theorem S_toList (l:List UInt8):(S l).toList=l:=ByteArray.toList_mk l
theorem S_data (l:List UInt8):(S l).data.toList=l:=by simp [S]
theorem S_extract (l:List UInt8) (a b:Nat):(S l).extract a b=S ((l.drop a).take (b - a)):=by rw [Lib.extract_eq,S_data]
theorem u8_lt (c:UInt8):c.toNat < 256:=c.toNat_lt
theorem u8_eq {a b:UInt8} (h:a.toNat=b.toNat):a=b:=UInt8.toNat_inj.1 h
def dl (l:List UInt8):Nat:=(l.takeWhile isDig).length
def valL (l:List UInt8):Nat:=l.foldl (fun n c=>10 * n+(c.toNat - 48)) 0
end Go.Proofs.YtdjldmolhkkipaaGreatDoor.Pl
end
section
set_option linter.unusedVariables false
set_option linter.unusedSimpArgs false
namespace Go.Proofs.YtdjldmolhkkipaaGreatDoor.Pl
open Go
theorem foldl_lt:∀ (l:List UInt8) (acc:Nat),(∀ c∈l,isDig c=true)→l.foldl (fun n c=>10 * n+(c.toNat - 48)) acc < (acc+1) * 10 ^ l.length
 | [],acc,_=>by simp
 | c :: l,acc,h=>by
  have hc:isDig c=true:=h c (by simp)
  unfold isDig at hc
  simp at hc
  have:=foldl_lt l (10 * acc+(c.toNat - 48)) (fun c' hc'=>h c' (by simp [hc']))
  rw [List.foldl_cons,List.length_cons,Nat.pow_succ]
  refine Nat.lt_of_lt_of_le this ?_
  have h1:(10 * acc+(c.toNat - 48)+1)≤(acc+1) * 10:=by omega
  calc (10 * acc+(c.toNat - 48)+1) * 10 ^ l.length≤((acc+1) * 10) * 10 ^ l.length:=Nat.mul_le_mul_right _ h1
   _=(acc+1) * (10 ^ l.length * 10):=by rw [Nat.mul_assoc,Nat.mul_comm 10]
theorem valL_lt (l:List UInt8) (h:∀ c∈l,isDig c=true):valL l < 10 ^ l.length:=by
 have:=foldl_lt l 0 h
 simpa [valL] using this
def pairL (m:Nat):List UInt8:=58 :: (digsN 20 (m / 10)++digsN 20 (m % 10))
theorem digsN_len:∀ k u,(digsN k u).length≤k
 | 0,_=>by simp [digsN]
 | k+1,u=>by
  rw [digsN]
  split
  ·simp
  ·have:=digsN_len k (u / 10); simp; omega
def clockB (a:Nat):List UInt8:=digsN 20 (a / 3600)++(if a % 60≠0 then pairL (a / 60 % 60)++pairL (a % 60) else if a / 60 % 60≠0 then pairL (a / 60 % 60) else [])
def clockL (sec:Int):List UInt8×Bool:=if -604799≤sec∧sec≤604799 then ((if sec < 0 then [45] else [])++clockB sec.natAbs,true) else ([],false)
end Go.Proofs.YtdjldmolhkkipaaGreatDoor.Pl
end
section
set_option linter.unusedVariables false
set_option linter.unusedSimpArgs false
namespace Go.Proofs.YtdjldmolhkkipaaGreatDoor.Pl
open Go
def leapY (y:Int):Bool:=decide (y % 4=0∧(y % 100≠0∨y % 400=0))
def fst (y:Int):Int:=365 * (y - 1)+(y - 1) / 4 - (y - 1) / 100+(y - 1) / 400 - 719162
def cum0 (m:Int):Int:=if m=1 then 0 else if m=2 then 31 else if m=3 then 59 else if m=4 then 90 else if m=5 then 120 else if m=6 then 151 else if m=7 then 181 else if m=8 then 212 else if m=9 then 243 else if m=10 then 273 else if m=11 then 304 else if m=12 then 334 else 365
def cum (y m:Int):Int:=cum0 m+if 2 < m∧leapY y=true then 1 else 0
def dim (y m:Int):Int:=if m=2 then (if leapY y=true then 29 else 28) else if m=4 then 30 else if m=6 then 30 else if m=9 then 30 else if m=11 then 30 else 31
def num (y m d:Int):Int:=fst y+cum y m+d - 1
def Vld (y m d:Int):Prop:=1≤y∧y≤9999∧1≤m∧m≤12∧1≤d∧d≤dim y m
theorem leapY_iff (y:Int):leapY y=true↔(y % 4=0∧(y % 100≠0∨y % 400=0)):=by unfold leapY; exact decide_eq_true_iff
theorem month_cases {m:Int} (h1:1≤m) (h2:m≤12):m=1∨m=2∨m=3∨m=4∨m=5∨m=6∨m=7∨m=8∨m=9∨m=10∨m=11∨m=12:=by omega
theorem dim_bd (y m:Int):28≤dim y m∧dim y m≤31:=by unfold dim; repeat' split <;> omega
theorem fst_succ (y:Int):fst (y+1)=fst y+365+if leapY y=true then 1 else 0:=by
 have:=leapY_iff y
 unfold fst
 by_cases h:leapY y=true
 ·rw [if_pos h]; have:=this.1 h; omega
 ·rw [if_neg h]
  have h':¬ (y % 4=0∧(y % 100≠0∨y % 400=0)):=fun z=>h (this.2 z)
  omega
theorem cum_succ (y m:Int) (h1:1≤m) (h2:m≤12):cum y m+dim y m=if m=12 then 365+(if leapY y=true then 1 else 0) else cum y (m+1):=by
 rcases month_cases h1 h2 with rfl | rfl | rfl | rfl | rfl | rfl | rfl | rfl | rfl | rfl | rfl | rfl <;>
  cases hl:leapY y <;> simp [cum,cum0,dim,hl]
theorem num_bd {y m d:Int} (h:Vld y m d):fst y≤num y m d∧num y m d < fst (y+1):=by
 obtain ⟨_,_,h1,h2,h3,h4⟩:=h
 rw [fst_succ]
 unfold num
 rcases month_cases h1 h2 with rfl | rfl | rfl | rfl | rfl | rfl | rfl | rfl | rfl | rfl | rfl | rfl <;>
  cases hl:leapY y <;> simp [cum,cum0,dim,hl] at h4 ⊢ <;> omega
theorem fst_bd {y:Int} (h1:1≤y) (h2:y≤9999):-719162≤fst y∧fst (y+1)≤2932897:=by unfold fst; omega
theorem num_range {y m d:Int} (h:Vld y m d):-719162≤num y m d∧num y m d≤2932896:=by
 have:=num_bd h
 have:=fst_bd h.1 h.2.1
 omega
def sy (y m:Int):Int:=if m < 3 then y - 1 else y
def sm (m:Int):Int:=if m < 3 then m+12 else m
def numP (y m d:Int):Int:=146097 * (sy y m / 400)+365 * (sy y m % 400)+(sy y m % 400) / 4 - (sy y m % 400) / 100+((153 * (sm m - 3)+2) / 5+d - 1) - 719468
theorem numP_eq {y m d:Int} (h1:1≤m) (h2:m≤12):numP y m d=num y m d:=by
 have hl:=leapY_iff y
 have key:∀ b:Bool,leapY y=b→numP y m d=num y m d:=by
  intro b hb
  cases b with
  | true =>
   have hl':=hl.1 hb
   rcases month_cases h1 h2 with rfl | rfl | rfl | rfl | rfl | rfl | rfl | rfl | rfl | rfl | rfl | rfl <;>
    simp [numP,num,fst,cum,cum0,sy,sm,hb] <;> omega
  | false =>
   have hl':¬ (y % 4=0∧(y % 100≠0∨y % 400=0)):=fun z=>by rw [hl.2 z] at hb; cases hb
   rcases month_cases h1 h2 with rfl | rfl | rfl | rfl | rfl | rfl | rfl | rfl | rfl | rfl | rfl | rfl <;>
    simp [numP,num,fst,cum,cum0,sy,sm,hb] <;> omega
 exact key _ rfl
def st (b:Int):Int:=365 * b+b / 4 - b / 100
def gy (o:Int):Int:=o - o / 1460+o / 36524 - o / 146096
theorem gy_mono {a b:Int} (h0:0≤a) (h:a≤b) (hb:b≤146096):gy a≤gy b:=by unfold gy; omega
theorem ends:∀ n:Nat,n < 400→(gy (st n) / 365=n∧gy (st (n+1) - (if n=399 then 0 else 1)) / 365=n):=by decide +kernel
theorem year_of {o b:Int} (h0:0≤b) (h1:b < 400) (h2:st b≤o) (h3:o < st (b+1)∨(b=399∧o≤146096)):gy o / 365=b:=by
 obtain ⟨n,rfl⟩:=Int.eq_ofNat_of_zero_le h0
 obtain ⟨e1,e2⟩:=ends n (by omega)
 have hs0:0≤st n:=by unfold st; omega
 have hs1:st (n+1)≤146097:=by unfold st; omega
 by_cases hn:n=399
 ·subst hn
  have hm:st ((399:Nat)+1)=146096:=by decide
  rw [if_pos rfl,hm] at e2
  have ho:o≤146096:=by
   rcases h3 with h3 | h3
   ·have:((399:Nat):Int)+1=400:=rfl
    rw [this] at h3; have:st 400=146096:=by decide
    omega
   ·exact h3.2
  have g1:=gy_mono hs0 h2 ho
  have g2:=gy_mono (by omega:0≤o) ho (Int.le_refl _)
  simp only [Int.sub_zero] at e2
  omega
 ·rw [if_neg hn] at e2
  have ho:o≤st (n+1) - 1:=by
   rcases h3 with h3 | h3
   ·omega
   ·omega
  have g1:=gy_mono hs0 h2 (by omega)
  have g2:=gy_mono (by omega:0≤o) ho (by omega)
  omega
def era (n:Int):Int:=(n+719468) / 146097
def ofE (n:Int):Int:=(n+719468) % 146097
def yrs (n:Int):Int:=gy (ofE n) / 365
def doy (n:Int):Int:=ofE n - st (yrs n)
def mon (n:Int):Int:=(5 * doy n+2) / 153
def dayP (n:Int):Int:=doy n - (153 * mon n+2) / 5+1
def monP (n:Int):Int:=if mon n+3 > 12 then mon n+3 - 12 else mon n+3
def yearP (n:Int):Int:=400 * era n+(if mon n+3 > 12 then yrs n+1 else yrs n)
theorem date_num' {y m d:Int} (h:Vld y m d):(0≤doy (num y m d)∧doy (num y m d)≤365)∧yearP (num y m d)=y∧monP (num y m d)=m∧dayP (num y m d)=d:=by
 obtain ⟨a1,a2,h1,h2,h3,h4⟩:=h
 have hl:=leapY_iff y
 rw [← numP_eq h1 h2]
 have hb:0≤sy y m % 400∧sy y m % 400 < 400:=by omega
 have hdoy:0≤(153 * (sm m - 3)+2) / 5+d - 1∧st (sy y m % 400)+((153 * (sm m - 3)+2) / 5+d - 1)≤146096 ∧
   (st (sy y m % 400)+((153 * (sm m - 3)+2) / 5+d - 1) < st (sy y m % 400+1)∨sy y m % 400=399):=by
  unfold st
  cases hb':leapY y with
  | true =>
   have hl':=hl.1 hb'
   rcases month_cases h1 h2 with rfl | rfl | rfl | rfl | rfl | rfl | rfl | rfl | rfl | rfl | rfl | rfl <;>
    simp [sy,sm,dim,hb'] at h4 ⊢ <;> omega
  | false =>
   have hl':¬ (y % 4=0∧(y % 100≠0∨y % 400=0)):=fun z=>by rw [hl.2 z] at hb'; cases hb'
   rcases month_cases h1 h2 with rfl | rfl | rfl | rfl | rfl | rfl | rfl | rfl | rfl | rfl | rfl | rfl <;>
    simp [sy,sm,dim,hb'] at h4 ⊢ <;> omega
 have hst0:0≤st (sy y m % 400):=by unfold st; omega
 have hN:numP y m d+719468=146097 * (sy y m / 400)+(st (sy y m % 400)+((153 * (sm m - 3)+2) / 5+d - 1)):=by unfold numP st; omega
 have hera:era (numP y m d)=sy y m / 400:=by unfold era; omega
 have hof:ofE (numP y m d)=st (sy y m % 400)+((153 * (sm m - 3)+2) / 5+d - 1):=by unfold ofE; omega
 have hyrs:yrs (numP y m d)=sy y m % 400:=by
  unfold yrs
  rw [hof]
  refine year_of hb.1 hb.2 (by omega) ?_
  rcases hdoy.2.2 with h | h
  ·exact .inl h
  ·exact .inr ⟨h,hdoy.2.1⟩
 have hdy:doy (numP y m d)=(153 * (sm m - 3)+2) / 5+d - 1:=by unfold doy; rw [hof,hyrs]; omega
 have hdd:=dim_bd y m
 have hmon:mon (numP y m d)=sm m - 3:=by
  unfold mon
  rw [hdy]
  rcases month_cases h1 h2 with rfl | rfl | rfl | rfl | rfl | rfl | rfl | rfl | rfl | rfl | rfl | rfl <;>
   simp [sm,dim] at h4 ⊢ <;> omega
 refine ⟨?_,?_,?_,?_⟩
 ·rw [hdy]
  rcases month_cases h1 h2 with rfl | rfl | rfl | rfl | rfl | rfl | rfl | rfl | rfl | rfl | rfl | rfl <;>
   simp [sm,dim] at h4 ⊢ <;> omega
 ·unfold yearP
  rw [hera,hyrs,hmon]
  rcases month_cases h1 h2 with rfl | rfl | rfl | rfl | rfl | rfl | rfl | rfl | rfl | rfl | rfl | rfl <;>
   simp [sm,sy] <;> omega
 ·unfold monP
  rw [hmon]
  rcases month_cases h1 h2 with rfl | rfl | rfl | rfl | rfl | rfl | rfl | rfl | rfl | rfl | rfl | rfl <;> simp [sm]
 ·unfold dayP
  rw [hdy,hmon]
  omega
theorem date_num {y m d:Int} (h:Vld y m d):yearP (num y m d)=y∧monP (num y m d)=m∧dayP (num y m d)=d:=(date_num' h).2
theorem year_ex (n:Int) (h0:fst 1≤n):∀ k:Nat,n < fst (1+k)→∃ y:Int,1≤y∧y≤k∧fst y≤n∧n < fst (y+1)
 | 0,h=>by simp at h; omega
 | k+1,h=>by
  by_cases h1:n < fst (1+k)
  ·obtain ⟨y,a,b,c,d⟩:=year_ex n h0 k h1
   exact ⟨y,a,by omega,c,d⟩
  ·exact ⟨1+k,by omega,by omega,by omega,by have e:((k+1:Nat):Int)=(k:Int)+1:=rfl; rw [e] at h; rw [Int.add_assoc]; exact h⟩
theorem month_ex (y r:Int) (h0:0≤r):∀ k:Nat,k < 12→r < cum y (1+k)→∃ m:Int,1≤m∧m≤k∧cum y m≤r∧r < cum y (m+1)
 | 0,_,h=>by simp [cum,cum0] at h; omega
 | k+1,hk,h=>by
  by_cases h1:r < cum y (1+k)
  ·obtain ⟨m,a,b,c,d⟩:=month_ex y r h0 k (by omega) h1
   exact ⟨m,a,by omega,c,d⟩
  ·exact ⟨1+k,by omega,by omega,by omega,by have e:((k+1:Nat):Int)=(k:Int)+1:=rfl; rw [e] at h; rw [Int.add_assoc]; exact h⟩
theorem date_ex {n:Int} (h0:-719162≤n) (h1:n≤2932896):∃ y m d,Vld y m d∧num y m d=n:=by
 obtain ⟨y,a,b,c,e⟩:=year_ex n (by
                     have:fst 1=-719162:=by decide
                     omega) 9999 (by
                             have:fst (1+(9999:Nat))=2932897:=by decide
                             omega)
 rw [fst_succ] at e
 by_cases h:n - fst y < cum y 12
 ·obtain ⟨m,a',b',c',e'⟩:=month_ex y (n - fst y) (by omega) 11 (by omega) h
  have hs:=cum_succ y m a' (by omega)
  rw [if_neg (by omega)] at hs
  exact ⟨y,m,n - fst y - cum y m+1,⟨a,by omega,a',by omega,by omega,by omega⟩,by unfold num; omega⟩
 ·have hs:=cum_succ y 12 (by omega) (by omega)
  rw [if_pos rfl] at hs
  exact ⟨y,12,n - fst y - cum y 12+1,⟨a,by omega,by omega,by omega,by omega,by omega⟩,by unfold num; omega⟩
theorem num_date {n:Int} (h0:-719162≤n) (h1:n≤2932896):Vld (yearP n) (monP n) (dayP n)∧num (yearP n) (monP n) (dayP n)=n:=by
 obtain ⟨y,m,d,hv,rfl⟩:=date_ex h0 h1
 obtain ⟨e1,e2,e3⟩:=date_num hv
 rw [e1,e2,e3]
 exact ⟨hv,rfl⟩
theorem doy_bd {n:Int} (h0:-719162≤n) (h1:n≤2932896):0≤doy n∧doy n≤365:=by
 obtain ⟨y,m,d,hv,rfl⟩:=date_ex h0 h1
 exact (date_num' hv).1
def wk (n:Int):Int:=(n+4) % 7
end Go.Proofs.YtdjldmolhkkipaaGreatDoor.Pl
end
section
set_option linter.unusedVariables false
set_option linter.unusedSimpArgs false
namespace Go.Proofs.YtdjldmolhkkipaaGreatDoor.Pl
open Go
def rightR (K A B C X:Int):Bool :=
 decide ((-604799≤X∧X≤604799)∧((K=0∧1≤A∧A≤12∧1≤B∧B≤5∧0≤C∧C≤6)∨(K=1∧1≤A∧A≤365∧B=0∧C=0)∨(K=2∧0≤A∧A≤365∧B=0∧C=0)))
def offW (A B C y:Int):Int:=let k:=(C - wk (num y A 1)+7) % 7+7 * (B - 1); if k≥dim y A then k - 7 else k
def ruleDay (K A B C y:Int):Int:=if K=2 then fst y+A else if K=1 then (if A≤59∨leapY y=false then fst y - 1+A else fst y+A) else num y A 1+offW A B C y
def headL (K A B C:Int):List UInt8:=if K=0 then 77 :: (itoaK A++46 :: (itoaK B++46 :: itoaK C)) else if K=1 then 74 :: itoaK A else itoaK A
def tailL (X:Int):List UInt8:=if X=7200 then [] else 47 :: (clockL X).1
def textL (K A B C X:Int):List UInt8×Bool:=if rightR K A B C X=true then (headL K A B C++tailL X,true) else ([],false)
theorem itoaK_len (n:Int):(itoaK n).length≤21:=by
 unfold itoaK
 split
 ·have:=digsN_len 20 n.natAbs; simp; omega
 ·have:=digsN_len 20 n.toNat; omega
end Go.Proofs.YtdjldmolhkkipaaGreatDoor.Pl
end
section
set_option linter.unusedVariables false
set_option linter.unusedSimpArgs false
namespace Go.Proofs.YtdjldmolhkkipaaGreatDoor.Pl
open Go
theorem valL_snoc (a:List UInt8) (c:UInt8):valL (a++[c])=10 * valL a+(c.toNat - 48):=by simp [valL,List.foldl_append]
end Go.Proofs.YtdjldmolhkkipaaGreatDoor.Pl
end
section
set_option linter.unusedVariables false
set_option linter.unusedSimpArgs false
namespace Go.Proofs.YtdjldmolhkkipaaGreatDoor.Pl
open Go Go.Proofs.YtdjldmolhkkipaaGreatDoor.Eng
theorem ifT {c:Prop} [Decidable c] {a b:Prop} (h:c) (ha:a):if c then a else b:=by rw [if_pos h]; exact ha
theorem ifF {c:Prop} [Decidable c] {a b:Prop} (h:¬ c) (hb:b):if c then a else b:=by rw [if_neg h]; exact hb
theorem ifC {c:Prop} [Decidable c] {a b:Prop} (h1:c→a) (h2:¬ c→b):if c then a else b:=by
 by_cases h:c
 ·exact ifT h (h1 h)
 ·exact ifF h (h2 h)
theorem w64_in {n:Int} (h0:-9223372036854775808≤n) (h1:n≤9223372036854775807):w64 n=n:=by
 simp only [w64,IntKind.wrap,IntKind.bits,IntKind.signed]
 try simp
 try omega
theorem bAt0 (c:UInt8) (l:List UInt8):Eng.bAt (S (c :: l)) 0=(c.toNat:Int):=rfl
theorem lp_ind {α:Type} {F:(α→Prop)→α→Prop} (μ:α→Nat) (I:α→Prop) (h:∀ x,I x→∀ k:α→Prop,(∀ y,I y→μ y < μ x→k y)→F k x) {x:α} (hx:I x):Eng.lp F x:=by
 have key:∀ n x,I x→μ x < n→itrT F n x:=by
  intro n
  induction n with
  | zero=>intro x _ hn; omega
  | succ n ih=>intro x hx hn; exact h x hx _ fun y hy hlt=>ih y hy (by omega)
 exact ⟨μ x+1,key _ _ hx (Nat.lt_succ_self _)⟩
theorem lp_nat {α:Type} {F:(α→Prop)→α→Prop} (st:Nat→α) (N:Nat) (h:∀ n,n≤N→∀ k:α→Prop,(n < N→k (st (n+1)))→F k (st n)):Eng.lp F (st 0):=by
 have key:∀ d n,n+d=N→itrT F (d+1) (st n):=by
  intro d
  induction d with
  | zero=>intro n hn; exact h n (by omega) _ fun hlt=>by omega
  | succ d ih=>intro n hn; exact h n (by omega) _ fun hlt=>ih (n+1) (by omega)
 exact ⟨N+1,key N 0 (by omega)⟩
theorem lp_at {α:Type} {F:(α→Prop)→α→Prop} {x:α} (st:Nat→α) (N:Nat) (h0:x=st 0) (h:∀ n,n≤N→∀ k:α→Prop,(n < N→k (st (n+1)))→F k (st n)):Eng.lp F x:=by
 rw [h0]; exact lp_nat st N h
def nl (q:UInt8→Bool) (l:List UInt8):Nat:=(l.takeWhile fun c=>!q c).length
theorem nl_le (q:UInt8→Bool) (l:List UInt8):nl q l≤l.length:=by unfold nl; exact (List.takeWhile_sublist _).length_le
theorem nl_cons (q:UInt8→Bool) (c:UInt8) (l:List UInt8):nl q (c :: l)=if q c=true then 0 else nl q l+1:=by
 unfold nl; rw [List.takeWhile_cons]; cases q c <;> simp
theorem nl_of (q:UInt8→Bool):∀ (l:List UInt8) (k:Nat),k≤l.length→(∀ c∈l.take k,q c=false)→(∀ h:k < l.length,q l[k]=true)→nl q l=k
 | [],k,hk,_,_=>by simp at hk; subst hk; rfl
 | c :: l,0,_,_,h=>by
  have h0:q c=true:=h (by simp)
  rw [nl_cons,if_pos h0]
 | c :: l,k+1,hk,h1,h2=>by
  have hc:=h1 c (by simp)
  rw [nl_cons,if_neg (by rw [hc]; simp),nl_of q l k (by simpa using hk) (fun d hd=>h1 d (by rw [List.take_succ_cons]; exact .tail _ hd)) (fun h=>by have:=h2 (by simpa using h); simpa using this)]
theorem indexByte_nl (l:List UInt8) (c:UInt8):Lib.indexByte l c=if nl (· == c) l < l.length then (nl (· == c) l:Int) else -1:=by
 induction l with
 | nil=>rfl
 | cons b l ih =>
  rw [Lib.indexByte,nl_cons,ih]
  cases hb:(b == c)
  ·simp only [Bool.false_eq_true,if_false,List.length_cons]
   by_cases h:nl (· == c) l < l.length
   ·rw [if_pos h,if_neg (by simp),if_pos (by omega)]; omega
   ·rw [if_neg h,if_pos (by simp),if_neg (by omega)]
  ·simp
theorem decode_lo (l:List UInt8) (pos:Nat) (h:pos < l.length) (ha:l[pos].toNat < 128):Utf8.decode (S l) pos=(l[pos].toNat,1):=decode_ascii (S l) pos (by rw [S_size]; exact h) ha
theorem decode_hi (l:List UInt8) (pos:Nat) (h:pos < l.length) (ha:128≤l[pos].toNat):128≤(Utf8.decode (S l) pos).1∧1≤(Utf8.decode (S l) pos).2:=decode_high (S l) pos (by rw [S_size]; exact h) ha
end Go.Proofs.YtdjldmolhkkipaaGreatDoor.Pl
end
section
set_option linter.unusedVariables false
set_option linter.unusedSimpArgs false
namespace Go.Proofs.YtdjldmolhkkipaaGreatDoor.Pl
open Go Go.Proofs.YtdjldmolhkkipaaGreatDoor.Eng
abbrev W32:=BitVec 32
abbrev wi (x:W32):Int:=(x.toNat:Int)
abbrev bi (c:UInt8):Int:=(c.toNat:Int)
abbrev cw (x:W32):V:=.c (.int .u32 (wi x))
abbrev cb (c:UInt8):V:=.c (.int .u8 (bi c))
theorem wu32_in {n:Int} (h0:0≤n) (h1:n≤4294967295):wu32 n=n:=by
 simp only [wu32,IntKind.wrap,IntKind.bits,IntKind.signed]
 try simp
 try omega
theorem wu8_in {n:Int} (h0:0≤n) (h1:n≤255):wu8 n=n:=by
 simp only [wu8,IntKind.wrap,IntKind.bits,IntKind.signed]
 try simp
 try omega
theorem wu64_in {n:Int} (h0:0≤n) (h1:n≤18446744073709551615):wu64 n=n:=by
 simp only [wu64,IntKind.wrap,IntKind.bits,IntKind.signed]
 try simp
 try omega
theorem wu32_nat (n:Nat):wu32 (n:Int)=wi (BitVec.ofNat 32 n):=by
 simp only [wu32,wi,IntKind.wrap,IntKind.bits,IntKind.signed,BitVec.toNat_ofNat]
 simp
theorem wi_lt (x:W32):x.toNat < 4294967296:=x.isLt
theorem bi_lt (c:UInt8):c.toNat < 256:=c.toNat_lt
theorem wu32_wi (x:W32):wu32 (x.toNat:Int)=wi x:=wu32_in (by omega) (by have:=wi_lt x; omega)
theorem ofInt_wi (x:W32):BitVec.ofInt 32 (wi x)=x:=by
 apply BitVec.eq_of_toNat_eq
 rw [BitVec.toNat_ofInt]
 have:=wi_lt x
 have e:((2 ^ 32:Nat):Int)=4294967296:=by decide
 rw [e]
 unfold wi
 omega
theorem wi_add (x y:W32):wu32 (wi x+wi y)=wi (x+y):=by
 rw [show wi x+wi y=((x.toNat+y.toNat:Nat):Int) by simp [wi],wu32_nat]
 congr 1
theorem wi_shl (x:W32) (k:Nat):wu32 (wi x * 2 ^ k)=wi (x <<< k):=by
 rw [show wi x * 2 ^ k=((x.toNat * 2 ^ k:Nat):Int) by simp [wi],wu32_nat]
 congr 1
 apply BitVec.eq_of_toNat_eq
 simp [BitVec.toNat_shiftLeft,Nat.shiftLeft_eq]
theorem wi_shr (x:W32) (k:Nat):Int.fdiv (wi x) (2 ^ k)=wi (x >>> k):=by
 rw [Int.fdiv_eq_ediv_of_nonneg _ (by exact_mod_cast Nat.zero_le _)]
 unfold wi
 rw [BitVec.toNat_ushiftRight,Nat.shiftRight_eq_div_pow]
 exact_mod_cast rfl
def rotl (x:W32) (k:Nat):W32:=x <<< k ||| x >>> (32 - k)
theorem wi_lit (n:Nat) (h:n < 4294967296):(n:Int)=wi (BitVec.ofNat 32 n):=by
 unfold wi
 rw [BitVec.toNat_ofNat,Nat.mod_eq_of_lt (by omega)]
theorem wu32_bi (c:UInt8):wu32 (bi c)=wi (BitVec.ofNat 32 c.toNat):=by rw [wu32_nat]
def sched:Nat→List W32→List W32
 | 0,l=>l
 | n+1,l=>sched n (l++[rotl (l.getD (l.length - 3) 0 ^^^ l.getD (l.length - 8) 0 ^^^ l.getD (l.length - 14) 0 ^^^ l.getD (l.length - 16) 0) 1])
def next (l:List W32):List W32:=l++[rotl (l.getD (l.length - 3) 0 ^^^ l.getD (l.length - 8) 0 ^^^ l.getD (l.length - 14) 0 ^^^ l.getD (l.length - 16) 0) 1]
def word (b:List UInt8) (i:Nat):W32:=b.foldl (fun w c=>w <<< 8 ||| BitVec.ofNat 32 c.toNat) 0
def wordAt (b:List UInt8) (i:Nat):W32:=word ((b.drop (4 * i)).take 4) 0
def first (b:List UInt8) (n:Nat):List W32:=(List.range n).map (wordAt b)
def wordsN (b:List UInt8):Nat→List W32
 | 0=>first b 16
 | n+1=>next (wordsN b n)
theorem wordsN_len (b:List UInt8) (n:Nat):(wordsN b n).length=16+n:=by
 induction n with
 | zero=>simp [wordsN,first]
 | succ n ih=>simp [wordsN,next,ih]; omega
structure St5 where
 a:W32
 b:W32
 c:W32
 d:W32
 e:W32
def fAt (i:Nat) (b c d:W32):W32:=if i < 20 then d ^^^ (b &&& (c ^^^ d)) else if i < 40 then b ^^^ c ^^^ d else if i < 60 then (b &&& c) ||| (d &&& (b ||| c)) else b ^^^ c ^^^ d
def kAt (i:Nat):W32:=if i < 20 then 1518500249#32 else if i < 40 then 1859775393#32 else if i < 60 then 2400959708#32 else 3395469782#32
def stepS (s:St5) (f k w:W32):St5:=⟨rotl s.a 5+f+s.e+k+w,s.a,rotl s.b 30,s.c,s.d⟩
def roundsN (ws:List W32) (s:St5):Nat→St5
 | 0=>s
 | n+1=>let t:=roundsN ws s n; stepS t (fAt n t.b t.c t.d) (kAt n) (ws.getD n 0)
def addS (s t:St5):St5:=⟨s.a+t.a,s.b+t.b,s.c+t.c,s.d+t.d,s.e+t.e⟩
def blockL (s:St5) (b:List UInt8):St5:=addS (roundsN (wordsN b 64) s 80) s
def blocksN (l:List UInt8) (s:St5):Nat→St5
 | 0=>s
 | n+1=>blockL (blocksN l s n) ((l.drop (64 * n)).take 64)
def be64 (n:Nat):List UInt8:=(List.range 8).map fun i=>UInt8.ofNat (n / 2 ^ (8 * (7 - i)))
def padL (m:List UInt8):List UInt8:=m++[128]++List.replicate ((184 - (m.length+1) % 64) % 64) 0++be64 (8 * m.length)
def s0:St5:=⟨1732584193#32,4023233417#32,2562383102#32,271733878#32,3285377520#32⟩
def St5.at (s:St5) (i:Nat):W32:=match i with | 0=>s.a | 1=>s.b | 2=>s.c | 3=>s.d | _=>s.e
def sumS (m:List UInt8):St5:=blocksN (padL m) s0 ((padL m).length / 64)
def digest (m:List UInt8) (i:Nat):UInt8:=UInt8.ofNat (((sumS m).at (i / 4)).toNat / 2 ^ (24 - 8 * (i % 4)))
theorem padL_len (m:List UInt8):(padL m).length % 64=0:=by
 simp [padL,be64]
 omega
def wordsOf (d:Nat→UInt8) (j:Nat):W32:=word [d (4 * j),d (4 * j+1),d (4 * j+2),d (4 * j+3)] 0
def hexC (n:Nat):UInt8:=[48,49,50,51,52,53,54,55,56,57,97,98,99,100,101,102].getD n 0
def hexN (d:Nat→UInt8):Nat→List UInt8
 | 0=>[]
 | n+1=>hexN d n++[hexC ((d n).toNat / 16),hexC ((d n).toNat % 16)]
def agL (k:IntKind) (n:Nat) (f:Nat→Int):List V:=[.agg ((List.range n).map fun i=>.c (.int k (f i)))]
def updF (f:Nat→Int) (i:Nat) (x:Int):Nat→Int:=fun j=>if j=i then x else f j
theorem agL_get {k:IntKind} {n:Nat} {f:Nat→Int} {i:Nat} (h:i < n):getC (agL k n f) 0 i=some (.c (.int k (f i))):=by
 simp [agL,getC,V.cells,h]
theorem asI {k:IntKind} {n:Nat} {f:Nat→Int} {i:Nat} (h:i < n) {F:Prop} {K:Int→Prop} (hk:K (f i)):Eng.asInt k (getC (agL k n f) 0 i) F K:=by
 rw [agL_get h]
 simpa [Eng.asInt] using hk
theorem asL {k:IntKind} {n:Nat} {f:Nat→Int} {i:Nat} (h:i < n) {F:Prop} {K:Int→Prop} (hk:K (f i)):Eng.asInt k (((List.range n).map fun i=>V.c (.int k (f i)))[i]?) F K:=by
 simp [Eng.asInt,h,hk]
theorem agL_set {k:IntKind} {n:Nat} {f:Nat→Int} {i:Nat} {x:Int} (h:i < n):List.set (agL k n f) 0 (setE (List.getD (agL k n f) 0 V.bad) i [.c (.int k x)])=agL k n (updF f i x):=by
 simp only [agL,List.getD_cons_zero,setE,setL,List.set_cons_zero]
 congr 2
 apply List.ext_getElem?
 intro j
 rw [List.getElem?_set]
 by_cases hj:j < n
 ·by_cases e:i=j
  ·subst e; simp [updF,h]
  ·simp [e,hj,updF,Ne.symm e]
 ·have:¬ i=j:=by omega
  simp [this,hj]
theorem agL_len {k:IntKind} {n:Nat} {f:Nat→Int}:(agL k n f).length=1:=rfl
theorem agL_congr {k:IntKind} {n:Nat} {f g:Nat→Int} (h:∀ i,i < n→f i=g i):agL k n f=agL k n g:=by
 unfold agL
 congr 2
 apply List.map_congr_left
 intro i hi
 rw [h i (List.mem_range.1 hi)]
end Go.Proofs.YtdjldmolhkkipaaGreatDoor.Pl
end
