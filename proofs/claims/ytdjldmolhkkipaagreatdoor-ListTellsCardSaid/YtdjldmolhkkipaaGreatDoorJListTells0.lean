/- What the functions come to in plain data, with proofs, and what that answers. -/
import Derived.Test.YtdjldmolhkkipaaGreatDoorGListTells3
import Derived.Shelf.Strings.Builder1
import Derived.Shelf.Strings.Builder2
import Derived.Shelf.Strings.OnBuilder
import Derived.Shelf.Strings.BuilderF
import Derived.Shelf.Strings.BuilderK
import Derived.Shelf.Utf8.RuneCount
import Derived.Shelf.Strings.Builder2Cap
import Derived.Shelf.Strconv.Itoa0
import Derived.Shelf.Strconv.Itoa1
import Derived.Shelf.LaysM
import Derived.Shelf.Strconv.Itoa2
import Derived.Shelf.Strconv.Itoa3
import Derived.Shelf.Strings.Search1
import Derived.Shelf.Strings.Search2
import Derived.Shelf.Strings.Search3
import Derived.Shelf.Strings.Cut
import Derived.Shelf.Strings.Count
import Derived.Shelf.Strings.Shaped
import Derived.Shelf.Strings.Prefix
import Derived.Shelf.Strings.Split
import Derived.Shelf.Strings.SplitShaped
import Derived.Shelf.Unicode.Decode
import Derived.Shelf.Strings.RuneCount
import Derived.Shelf.Strings.Explode
import Derived.Shelf.Bits.Mul64
import Derived.Shelf.Unicode.DecodeSlow
import Derived.Shelf.Unicode.DecodeAny
import Derived.Shelf.Strings.BuilderCap
import Derived.Test.YtdjldmolhkkipaaGreatDoorProg
import Derived.Lib.AppendIntMem
import Derived.Lib.ItoaMem
import Derived.Lib.ItoaNum
import Derived.Lib.Join
import Derived.Lib.LaidTab
section
set_option linter.unusedVariables false
set_option linter.unusedSimpArgs false
namespace Go.Proofs
open Go.Shelf
def Tryz.lays156_ren:Go.Shelf.Ren:=⟨fun | 156=>58 | 165=>92 | 166=>93 | 169=>94 | 240=>120 | 241=>121 | 276=>141 | 277=>142 | n=>n,fun | 31=>49 | 9=>9 | 3=>3 | 4=>4 | 0=>0 | 20=>20 | 72=>127 | 76=>131 | 70=>125 | 37=>74 | 75=>130 | 127=>152 | 164=>171 | 5=>5 | 80=>40 | n=>n,fun | n=>n⟩
theorem Tryz.lays156:Go.Proofs.Lays.n156 Tryz.prog Tryz.lays156_ren:={
 mixed:=by kernel_rfl
 f156:=Tryz.func58.trans (congrArg some (by kernel_rfl))
 f165:=Tryz.func92.trans (congrArg some (by kernel_rfl))
 f166:=Tryz.func93.trans (congrArg some (by kernel_rfl))
 f169:=Tryz.func94.trans (congrArg some (by kernel_rfl))
 f240:=Tryz.func120.trans (congrArg some (by kernel_rfl))
 f241:=Tryz.func121.trans (congrArg some (by kernel_rfl))
 f276:=Tryz.func141.trans (congrArg some (by kernel_rfl))
 f277:=Tryz.func142.trans (congrArg some (by kernel_rfl))
 t0:=Tryz.underlying0
 a0:=Tryz.isAgg0
 z0:=Tryz.sizeOf0
 v0:=Tryz.zeroValue0
 t3:=Tryz.underlying3
 a3:=Tryz.isAgg3
 z3:=Tryz.sizeOf3
 v3:=Tryz.zeroValue3
 t4:=Tryz.underlying4
 a4:=Tryz.isAgg4
 z4:=Tryz.sizeOf4
 v4:=Tryz.zeroValue4
 t9:=Tryz.underlying9
 a9:=Tryz.isAgg9
 z9:=Tryz.sizeOf9
 v9:=Tryz.zeroValue9
 t20:=Tryz.underlying20
 a20:=Tryz.isAgg20
 z20:=Tryz.sizeOf20
 v20:=Tryz.zeroValue20
 t31:=Tryz.underlying49
 a31:=Tryz.isAgg49
 z31:=Tryz.sizeOf49
 v31:=Tryz.zeroValue49
 t37:=Tryz.underlying74
 a37:=Tryz.isAgg74
 z37:=Tryz.sizeOf74
 v37:=Tryz.zeroValue74
 t70:=Tryz.underlying125
 a70:=Tryz.isAgg125
 z70:=Tryz.sizeOf125
 v70:=Tryz.zeroValue125
 t72:=Tryz.underlying127
 a72:=Tryz.isAgg127
 z72:=Tryz.sizeOf127
 v72:=Tryz.zeroValue127
 t75:=Tryz.underlying130
 a75:=Tryz.isAgg130
 z75:=Tryz.sizeOf130
 v75:=Tryz.zeroValue130
 t76:=Tryz.underlying131
 a76:=Tryz.isAgg131
 z76:=Tryz.sizeOf131
 v76:=Tryz.zeroValue131
 t127:=Tryz.underlying152
 a127:=Tryz.isAgg152
 z127:=Tryz.sizeOf152
 v127:=Tryz.zeroValue152
 t164:=Tryz.underlying171
 a164:=Tryz.isAgg171
 z164:=Tryz.sizeOf171
 v164:=Tryz.zeroValue171 }
theorem Tryz.Builder_Extra_156:Builder.Extra Tryz.prog Tryz.lays156_ren:={
 sizeBuilder:=by kernel_rfl
 liesBuilder:=by kernel_rfl
 t5:=Tryz.underlying5
 a5:=Tryz.isAgg5
 z5:=Tryz.sizeOf5
 v5:=Tryz.zeroValue5
 infoByte:=by kernel_rfl
 cellsByte:=by kernel_rfl
 sizeByte:=by kernel_rfl
 neB5:=by decide }
open Go.RowKit in
theorem Tryz.strings_Join_none (a:Option Addr) (c:Nat) (sep:ByteArray) (w:World) :
  Calls Tryz.prog 58 #[.slice a 0 c,.string sep] w fun e w'=>e = .returned (.string ⟨#[]⟩)∧w'=w:=Any.strings_Join_none Tryz.lays156 Tryz.Builder_Extra_156 a c sep w
open Go.RowKit in
theorem Tryz.strings_Join (bk o c:Nat) (xs:List ByteArray) (sep:ByteArray) (w:World) (hcells:∀ (j:Nat) x,xs[j]? = some x→w.cell? ⟨bk,o+j,none⟩=some (.string x)) (hbk:bk < w.heap.size) (hN:xs.length≤140737488355328) (hcap:xs.length≤c) (hlen:(Lib.join (xs.map (·.data.toList)) sep.data.toList).length≤140737488355328) :
  Calls Tryz.prog 58 #[.slice (some ⟨bk,o,none⟩) xs.length c,.string sep] w fun e w'=>e = .returned (.string ⟨(Lib.join (xs.map (·.data.toList)) sep.data.toList).toArray⟩)∧Below w.heap.size w w':=Any.strings_Join Tryz.lays156 Tryz.Builder_Extra_156 bk o c xs sep w hcells hbk hN hcap hlen
def Tryz.laysM171_ren:Go.Shelf.Ren:=⟨fun | 171=>34 | 243=>67 | 246=>105 | 283=>127 | 284=>128 | 285=>129 | 286=>130 | 129=>146 | 317=>145 | 318=>147 | 319=>148 | 320=>149 | 337=>155 | 338=>156 | n=>n,fun | 3=>3 | 9=>9 | 2=>2 | 4=>4 | 171=>157 | 0=>0 | 53=>134 | 37=>74 | 5=>5 | 173=>160 | 212=>176 | 51=>56 | 20=>20 | 213=>177 | 46=>94 | 232=>186 | 233=>187 | n=>n,fun | 17=>1 | 18=>4 | 19=>5 | n=>n⟩
theorem Tryz.laysM171:Go.Proofs.LaysM.n171 Tryz.prog Tryz.laysM171_ren:={
 mixed:=by kernel_rfl
 f129:=Tryz.func146.trans (congrArg some (by kernel_rfl))
 f171:=Tryz.func34.trans (congrArg some (by kernel_rfl))
 f243:=Tryz.func67.trans (congrArg some (by kernel_rfl))
 f246:=Tryz.func105.trans (congrArg some (by kernel_rfl))
 f283:=Tryz.func127.trans (congrArg some (by kernel_rfl))
 f284:=Tryz.func128.trans (congrArg some (by kernel_rfl))
 f285:=Tryz.func129.trans (congrArg some (by kernel_rfl))
 f286:=Tryz.func130.trans (congrArg some (by kernel_rfl))
 f317:=Tryz.func145.trans (congrArg some (by kernel_rfl))
 f318:=Tryz.func147.trans (congrArg some (by kernel_rfl))
 f319:=Tryz.func148.trans (congrArg some (by kernel_rfl))
 f320:=Tryz.func149.trans (congrArg some (by kernel_rfl))
 f337:=Tryz.func155.trans (congrArg some (by kernel_rfl))
 f338:=Tryz.func156.trans (congrArg some (by kernel_rfl))
 t0:=Tryz.underlying0
 a0:=Tryz.isAgg0
 z0:=Tryz.sizeOf0
 v0:=Tryz.zeroValue0
 t2:=Tryz.underlying2
 a2:=Tryz.isAgg2
 z2:=Tryz.sizeOf2
 v2:=Tryz.zeroValue2
 t3:=Tryz.underlying3
 a3:=Tryz.isAgg3
 z3:=Tryz.sizeOf3
 v3:=Tryz.zeroValue3
 t4:=Tryz.underlying4
 a4:=Tryz.isAgg4
 z4:=Tryz.sizeOf4
 v4:=Tryz.zeroValue4
 t5:=Tryz.underlying5
 a5:=Tryz.isAgg5
 z5:=Tryz.sizeOf5
 v5:=Tryz.zeroValue5
 t9:=Tryz.underlying9
 a9:=Tryz.isAgg9
 z9:=Tryz.sizeOf9
 v9:=Tryz.zeroValue9
 t20:=Tryz.underlying20
 a20:=Tryz.isAgg20
 z20:=Tryz.sizeOf20
 v20:=Tryz.zeroValue20
 t37:=Tryz.underlying74
 a37:=Tryz.isAgg74
 z37:=Tryz.sizeOf74
 v37:=Tryz.zeroValue74
 t46:=Tryz.underlying94
 a46:=Tryz.isAgg94
 z46:=Tryz.sizeOf94
 v46:=Tryz.zeroValue94
 t51:=Tryz.underlying56
 a51:=Tryz.isAgg56
 z51:=Tryz.sizeOf56
 v51:=Tryz.zeroValue56
 t53:=Tryz.underlying134
 a53:=Tryz.isAgg134
 z53:=Tryz.sizeOf134
 v53:=Tryz.zeroValue134
 t171:=Tryz.underlying157
 a171:=Tryz.isAgg157
 z171:=Tryz.sizeOf157
 v171:=Tryz.zeroValue157
 t173:=Tryz.underlying160
 a173:=Tryz.isAgg160
 z173:=Tryz.sizeOf160
 v173:=Tryz.zeroValue160
 t212:=Tryz.underlying176
 a212:=Tryz.isAgg176
 z212:=Tryz.sizeOf176
 v212:=Tryz.zeroValue176
 t213:=Tryz.underlying177
 a213:=Tryz.isAgg177
 z213:=Tryz.sizeOf177
 t232:=Tryz.underlying186
 a232:=Tryz.isAgg186
 z232:=Tryz.sizeOf186
 v232:=Tryz.zeroValue186
 t233:=Tryz.underlying187
 a233:=Tryz.isAgg187
 z233:=Tryz.sizeOf187
 v233:=Tryz.zeroValue187
 g17:=by kernel_rfl
 g18:=by kernel_rfl
 g19:=by kernel_rfl
 i0:=by kernel_rfl
 i2:=by kernel_rfl
 i3:=by kernel_rfl
 i4:=by kernel_rfl
 i5:=by kernel_rfl
 i9:=by kernel_rfl
 i20:=by kernel_rfl
 i37:=by kernel_rfl
 i46:=by kernel_rfl
 i51:=by kernel_rfl
 i53:=by kernel_rfl
 i171:=by kernel_rfl
 i173:=by kernel_rfl
 i212:=by kernel_rfl
 i232:=by kernel_rfl
 i233:=by kernel_rfl
 m17:=by kernel_rfl
 m18:=by kernel_rfl
 m19:=by kernel_rfl }
open Go.RowKit Go.Sort Go.Lib in
theorem Tryz.strconv_Itoa (n:Int) (h0:-9223372036854775808≤n) (h1:n≤9223372036854775807) (w:World) (htab:Lib.TabIs Tryz.prog w "internal/strconv.uint64pow10" .u64 Lib.pow10Tab) :
  Calls Tryz.prog 34 #[.int .i64 n] w fun e w'=>e = .returned (.string ⟨(Lib.itoa n).toArray⟩)∧∃ k os,w'=grow (w.drewN k) os:=Any.strconv_Itoa Tryz.laysM171 n h0 h1 w htab
def Tryz.lays217_ren:Go.Shelf.Ren:=⟨fun | 217=>133 | 266=>150 | n=>n,fun | 9=>9 | 5=>5 | 3=>3 | n=>n,fun | n=>n⟩
theorem Tryz.lays217:Go.Proofs.Lays.n217 Tryz.prog Tryz.lays217_ren:={
 mixed:=by kernel_rfl
 f217:=Tryz.func133.trans (congrArg some (by kernel_rfl))
 f266:=Tryz.func150.trans (congrArg some (by kernel_rfl))
 t3:=Tryz.underlying3
 a3:=Tryz.isAgg3
 z3:=Tryz.sizeOf3
 v3:=Tryz.zeroValue3
 t5:=Tryz.underlying5
 a5:=Tryz.isAgg5
 z5:=Tryz.sizeOf5
 v5:=Tryz.zeroValue5
 t9:=Tryz.underlying9
 a9:=Tryz.isAgg9
 z9:=Tryz.sizeOf9
 v9:=Tryz.zeroValue9 }
open Go.RowKit Go.Lib in
theorem Tryz.stringslite_IndexByte (s:ByteArray) (c:Int) (w:World) :
  Calls Tryz.prog 133 #[.string s,.int .u8 c] w fun e w'=>e = .returned (.int .i64 (Lib.indexByte s.data.toList c.toNat.toUInt8))∧w'=w:=Any.stringslite_IndexByte Tryz.lays217 s c w
def Tryz.lays138_ren:Go.Shelf.Ren:=⟨fun | 138=>117 | 195=>138 | 218=>140 | 143=>118 | 219=>110 | 217=>133 | 225=>134 | 224=>135 | 267=>136 | 266=>150 | 314=>151 | n=>n,fun | 9=>9 | 3=>3 | 4=>4 | 5=>5 | 0=>0 | 46=>94 | 146=>179 | 51=>56 | n=>n,fun | 1=>0 | n=>n⟩
theorem Tryz.lays138:Go.Proofs.Lays.n138 Tryz.prog Tryz.lays138_ren:={
 mixed:=by kernel_rfl
 f138:=Tryz.func117.trans (congrArg some (by kernel_rfl))
 f143:=Tryz.func118.trans (congrArg some (by kernel_rfl))
 f195:=Tryz.func138.trans (congrArg some (by kernel_rfl))
 f217:=Tryz.func133.trans (congrArg some (by kernel_rfl))
 f218:=Tryz.func140.trans (congrArg some (by kernel_rfl))
 f219:=Tryz.func110.trans (congrArg some (by kernel_rfl))
 f224:=Tryz.func135.trans (congrArg some (by kernel_rfl))
 f225:=Tryz.func134.trans (congrArg some (by kernel_rfl))
 f266:=Tryz.func150.trans (congrArg some (by kernel_rfl))
 f267:=Tryz.func136.trans (congrArg some (by kernel_rfl))
 f314:=Tryz.func151.trans (congrArg some (by kernel_rfl))
 t0:=Tryz.underlying0
 a0:=Tryz.isAgg0
 z0:=Tryz.sizeOf0
 v0:=Tryz.zeroValue0
 t3:=Tryz.underlying3
 a3:=Tryz.isAgg3
 z3:=Tryz.sizeOf3
 v3:=Tryz.zeroValue3
 t4:=Tryz.underlying4
 a4:=Tryz.isAgg4
 z4:=Tryz.sizeOf4
 v4:=Tryz.zeroValue4
 t5:=Tryz.underlying5
 a5:=Tryz.isAgg5
 z5:=Tryz.sizeOf5
 v5:=Tryz.zeroValue5
 t9:=Tryz.underlying9
 a9:=Tryz.isAgg9
 z9:=Tryz.sizeOf9
 v9:=Tryz.zeroValue9
 t46:=Tryz.underlying94
 a46:=Tryz.isAgg94
 z46:=Tryz.sizeOf94
 v46:=Tryz.zeroValue94
 t51:=Tryz.underlying56
 a51:=Tryz.isAgg56
 z51:=Tryz.sizeOf56
 v51:=Tryz.zeroValue56
 t146:=Tryz.underlying179
 a146:=Tryz.isAgg179
 z146:=Tryz.sizeOf179
 v146:=Tryz.zeroValue179
 g1:=by kernel_rfl }
open Go.RowKit Go.Lib in
theorem Tryz.strings_Count_one (s:ByteArray) (c:UInt8) (w:World) :
  Calls Tryz.prog 117 #[.string s,.string ⟨#[c]⟩] w fun e w'=>e = .returned (.int .i64 (Lib.countByte s.data.toList c))∧w'=w:=Any.strings_Count_one Tryz.lays138 s c w
end Go.Proofs
end
section
set_option linter.unusedVariables false
set_option linter.unusedSimpArgs false
namespace Go.Proofs.YtdjldmolhkkipaaGreatDoor
open Go Go.Proofs.YtdjldmolhkkipaaGreatDoor.Eng Go.RowKit
def gives:FuncId→Bool:=fun g=>Nat.beq g 80
theorem follows:Tryz.prog.follows .mixedOrders=true:=by kernel_rfl
abbrev Gs:={l:List (Nat×Obj) // ∀ w:World,(∀ x∈l,w.heap[x.1]? = some x.2)→Lib.TabIs Tryz.prog w "internal/strconv.uint64pow10" .u64 Lib.pow10Tab}
variable {G:Gs}
abbrev Titoa:Type:=Int→(ByteArray→Prop)→Prop
abbrev Tq2d:Type:=ByteArray→Int→(Int→Prop)→Prop
def Xitoa (n:Int) (K:ByteArray→Prop):Prop:=(-9223372036854775808≤n∧n≤9223372036854775807)∧K ⟨(Lib.itoa n).toArray⟩
def Jitoa (X:Int→(ByteArray→Prop)→Prop):Inst:=⟨34,(.cons (.int .i64) .nil),.nil,(.cons .str .nil),.nil,fun x y K=>X x.1 (fun u0=>K (u0,()) ())⟩
def Iitoa:Inst:=Jitoa Xitoa
theorem Iitoa_ok:InstOk Tryz.prog G.1 Iitoa:=fun ⟨n,_⟩ y K ⟨h1,h3⟩ =>
 (told (args:=[.int .i64 n]) (rs:=[.string ⟨(Lib.itoa n).toArray⟩]) rfl fun w hw=>(Tryz.strconv_Itoa n h1.1 h1.2 w (G.2 w hw)).mono fun e w' ⟨he,k,os,hw⟩=>⟨he,by subst hw; exact Lib.below_grow _ _ (Nat.le_refl _) _ _⟩).mono fun rs h' ⟨e1,e2⟩=>⟨(⟨(Lib.itoa n).toArray⟩,()),(),e1,e2,h3⟩
def Xq2d (s:ByteArray) (c:Int) (K:Int→Prop):Prop:=K (Lib.indexByte s.data.toList c.toNat.toUInt8)
def Jq2d (X:ByteArray→Int→(Int→Prop)→Prop):Inst:=⟨133,(.cons .str (.cons (.int .u8) .nil)),.nil,(.cons (.int .i64) .nil),.nil,fun x y K=>X x.1 x.2.1 (fun u0=>K (u0,()) ())⟩
def Iq2d:Inst:=Jq2d Xq2d
theorem Iq2d_ok:InstOk Tryz.prog G.1 Iq2d:=fun ⟨s,c,_⟩ y K h3 =>
 (told (args:=[.string s,.int .u8 c]) (rs:=[.int .i64 (Lib.indexByte s.data.toList c.toNat.toUInt8)]) rfl fun w _=>(Tryz.stringslite_IndexByte s c w).mono fun e w' ⟨he,hw⟩=>⟨he,by subst hw; exact Below.refl _ _⟩).mono fun rs h' ⟨e1,e2⟩=>⟨(_,()),(),e1,e2,h3⟩
abbrev Tjoin:Type:=List V→ByteArray→(ByteArray→Prop)→Prop
abbrev Tq2u:Type:=ByteArray→ByteArray→(Int→Prop)→Prop
def cs (b:ByteArray):V:=.c (.string b)
def Xq2u (s sep:ByteArray) (K:Int→Prop):Prop:=∃ c,sep=⟨#[c]⟩∧K (Lib.countByte s.data.toList c)
def Jq2u (X:Tq2u):Inst:=⟨117,(.cons .str (.cons .str .nil)),.nil,(.cons (.int .i64) .nil),.nil,fun x y K=>X x.1 x.2.1 (fun u0=>K (u0,()) ())⟩
def Iq2u:Inst:=Jq2u Xq2u
theorem Iq2u_ok:InstOk Tryz.prog G.1 Iq2u:=fun ⟨s,sep,_⟩ y K ⟨c,hc,h3⟩ =>
 (told (args:=[.string s,.string sep]) (rs:=[.int .i64 (Lib.countByte s.data.toList c)]) rfl fun w _=>by
  subst hc
  exact (Tryz.strings_Count_one s c w).mono fun e w' ⟨he,hw⟩=>⟨he,by subst hw; exact Below.refl _ _⟩).mono fun rs h' ⟨e1,e2⟩=>⟨(_,()),(),e1,e2,h3⟩
def Xjoin (xs:List V) (sep:ByteArray) (K:ByteArray→Prop):Prop:=∃ bs:List ByteArray,xs=bs.map cs∧bs.length≤1000000∧(Lib.join (bs.map (·.data.toList)) sep.data.toList).length≤100000000∧K ⟨(Lib.join (bs.map (·.data.toList)) sep.data.toList).toArray⟩
def Jjoin (X:Tjoin):Inst:=⟨58,(.cons (.slN 1) (.cons .str .nil)),.nil,(.cons .str .nil),.nil,fun x y K=>X x.1 x.2.1 (fun u0=>K (u0,()) ())⟩
def Ijoin:Inst:=Jjoin Xjoin
theorem Ijoin_ok:InstOk Tryz.prog G.1 Ijoin:=fun ⟨xs,sep,_⟩ y K ⟨bs,hx,hn,hl,hk⟩ w F ρ vs hG hlen hv hh=>by
 subst hx
 have hl2:vs.size=2:=by
  have:2=vs.size:=by simpa [Ijoin,Jjoin,PL.enc] using hlen
  omega
 have hl:(Lib.join (bs.map (·.data.toList)) sep.data.toList).length≤100000000:=hl
 obtain ⟨v0,v1,rfl⟩:∃ v0 v1,vs = #[v0,v1]:=by
  obtain ⟨l⟩:=vs
  match l,hl2 with
  | [a,b],_=>exact ⟨a,b,rfl⟩
 have h0:=hv 0 _ v0 rfl rfl
 have h1:=hv 1 _ v1 rfl rfl
 have h1':v1 = .string sep:=by
  have h1:VR _ F ρ (.c (.string sep)) v1:=h1
  cases h1; rfl
 subst h1'
 have h0:VR (clOf w) F ρ (.sl 1 false (bs.map cs)) v0:=h0
 cases h0 with
 | @sl _ _ _ a n cap g p cf hnn hc hf ha hw hF hvv =>
  have hnn':n=bs.length:=by rw [hnn,List.length_map]
  have key:Calls Tryz.prog 58 #[.slice a n cap,.string sep] w fun e w'=>e = .returned (.string ⟨(Lib.join (bs.map (·.data.toList)) sep.data.toList).toArray⟩)∧Below w.heap.size w w':=by
   cases bs with
   | nil =>
    have:n=0:=hnn'
    subst this
    exact (Tryz.strings_Join_none a cap sep w).mono fun e w' ⟨he,hw⟩=>⟨he,by subst hw; exact Below.refl _ _⟩
   | cons b0 bs0 =>
    have ha':a=some ⟨g,p,none⟩:=ha.resolve_left (by rw [hnn'] at hc; simp at hc; omega)
    subst ha'; subst hnn'
    have cell:∀ (j:Nat) x,(b0 :: bs0)[j]? = some x→F g (p+j)∧w.cell? ⟨g,p+j,none⟩=some (.string x):=by
     intro j x hj
     have hj':((b0 :: bs0).map cs)[j]? = some (cs x):=by rw [List.getElem?_map,hj]; rfl
     obtain ⟨q1,q2,q3⟩:=hF j (cs x) 0 hj' (by decide)
     have q4:=hvv j (cs x) 0 (cs x) hj' rfl
     rw [Nat.mul_one,Nat.add_zero] at q1 q2
     refine ⟨q1,?_⟩
     have q5:VR (clOf w) F ρ (.c (.string x)) (cf j 0):=q4
     generalize cf j 0=z at q2 q5
     cases q5
     exact q2
    have hg:g < w.heap.size:=hh.fin g (p+0) (cell 0 b0 rfl).1
    exact Tryz.strings_Join g p cap (b0 :: bs0) sep w (fun j x hj=>(cell j x hj).2) hg (by omega) hc (by omega)
  refine key.mono fun e w' ⟨he,hb⟩=>?_
  exact ⟨_,[.c (.string ⟨(Lib.join (bs.map (·.data.toList)) sep.data.toList).toArray⟩)],[],F,ρ,he,.c rfl,back_below hb hh,(⟨(Lib.join (bs.map (·.data.toList)) sep.data.toList).toArray⟩,()),(),rfl,rfl,hk⟩
theorem gs_of {w:World} (h:Lib.TabIs Tryz.prog w "internal/strconv.uint64pow10" .u64 Lib.pow10Tab):∃ G:Gs,∀ x∈G.1,w.heap[x.1]? = some x.2:=by
 unfold Lib.TabIs World.var? at h
 cases hg:Tryz.prog.globalNamed "internal/strconv.uint64pow10" with
 | none=>rw [hg] at h; cases h
 | some g =>
  rw [hg] at h
  simp only [Option.bind_some] at h
  cases ho:w.heap[g]? with
  | none=>rw [ho] at h; cases h
  | some o =>
   rw [ho] at h
   refine ⟨⟨[(g,o)],fun w' hw=>?_⟩,fun x hx=>?_⟩
   ·have:=hw (g,o) (.head _)
    unfold Lib.TabIs World.var?
    rw [hg]
    simp only [Option.bind_some,this]
    exact h
   ·simp only [List.mem_singleton] at hx
    subst hx; exact ho
theorem globN:Tryz.prog.globalNamed "internal/strconv.uint64pow10" = some 1:=by kernel_rfl
end Go.Proofs.YtdjldmolhkkipaaGreatDoor
end
section
set_option linter.unusedVariables false
set_option linter.unusedSimpArgs false
namespace Go.Proofs.YtdjldmolhkkipaaGreatDoor
open Go Go.Proofs.YtdjldmolhkkipaaGreatDoor.Eng
set_option maxRecDepth 100000
set_option maxHeartbeats 4000000
variable {G:Gs}
abbrev pL0:PL:=(.cons .str .nil)
abbrev pL1:PL:=(.cons .str (.cons .str .nil))
abbrev pL2:PL:=(.cons (.int .i64) .nil)
abbrev Q3:Type:=(ByteArray×ByteArray×Int×Int×Unit×Unit×Int×Unit)×List Eng.V×Unit
abbrev pT4:PT:=(.cons 0 .str (.cons 1 .str (.cons 2 (.int .i64) (.cons 3 (.int .i64) (.cons 8 (.nl 0) (.cons 9 (.sla 560) (.cons 10 (.int .i64) .nil)))))))
abbrev pH5:PH:=(.cons 560 (.arr 1 true false) .nil)
abbrev pL6:PL:=(.cons .str (.cons .str (.cons (.int .i64) (.cons (.int .i64) .nil))))
abbrev pL7:PL:=(.cons (.sla 0) .nil)
abbrev pH8:PH:=(.cons 0 (.arrB 1) .nil)
abbrev pL9:PL:=(.cons .bool .nil)
abbrev Q10:Type:=(Unit×Unit×Int×Int×Unit)×(List Eng.V×Bool×Bool)×Unit
abbrev pT11:PT:=(.cons 2 (.nl 0) (.cons 3 (.sla 176) (.cons 20 (.int .i64) (.cons 21 (.int .i64) .nil))))
abbrev pH12:PH:=(.cons 176 (.arrB 1) .nil)
abbrev Q13:Type:=(Unit×Nat×Int×Int×Unit)×(List Eng.V×Bool×Bool)×Unit
abbrev pT14:PT:=(.cons 2 (.nl 0) (.cons 3 (.slh 176) (.cons 20 (.int .i64) (.cons 21 (.int .i64) .nil))))
abbrev Q15:Type:=(ByteArray×Unit×Int×Unit×Unit)×(ByteArray×Nat)×List Eng.V×Unit
abbrev pT16:PT:=(.cons 0 .str (.cons 2 (.sla 736) (.cons 3 (.int .i64) (.cons 9 (.it 208) .nil))))
abbrev pH17:PH:=(.cons 208 .iter (.cons 736 (.arr 1 true false) .nil))
abbrev pL18:PL:=(.cons (.int .u64) .nil)
abbrev pL19:PL:=(.cons (.int .u64) (.cons (.int .u64) .nil))
abbrev pL20:PL:=(.cons (.int .i64) (.cons (.int .i64) .nil))
abbrev pL21:PL:=(.cons (.int .i64) (.cons .bool .nil))
abbrev Q22:Type:=(ByteArray×Int×Bool×Unit×Int×Int×Unit)×List Eng.V×Unit
abbrev pT23:PT:=(.cons 0 .str (.cons 2 (.int .i64) (.cons 3 .bool (.cons 11 (.sla 240) (.cons 12 (.int .i64) (.cons 13 (.int .i64) .nil))))))
abbrev pH24:PH:=(.cons 240 (.arr 1 true false) .nil)
abbrev Q25:Type:=ByteArray×Unit×Unit×Bool×Unit
abbrev Q26:Type:=(Int×Unit×Unit×Unit×Int×Int×Unit)×(ByteArray×Unit×Unit×Bool×Unit)×(ByteArray×Unit×Unit×Bool×Unit)×(List Eng.V×Bool×Bool)×List Eng.V×Unit
abbrev pT27:PT:=(.cons 2 (.int .i64) (.cons 6 (.ptr 160 0) (.cons 7 (.ptr 176 0) (.cons 17 (.sla 288) (.cons 18 (.int .i64) (.cons 19 (.int .i64) .nil))))))
abbrev pH28:PH:=(.cons 160 (.cells [.str,.sl 1,.sl 1,.bool] (.cons .str (.cons (.nl 1) (.cons (.nl 1) (.cons .bool .nil))))) (.cons 176 (.cells [.str,.sl 1,.sl 1,.bool] (.cons .str (.cons (.sla 288) (.cons (.sla 1280) (.cons .bool .nil))))) (.cons 288 (.arrB 1) (.cons 1280 (.arr 1 true false) .nil))))
abbrev pL29:PL:=(.cons .str (.cons .str (.cons (.int .i64) .nil)))
abbrev pL30:PL:=(.cons (.agg (.cons .str (.cons (.sla 0) (.cons (.sla 1) (.cons .bool .nil))))) .nil)
abbrev pH31:PH:=(.cons 0 (.arrB 1) (.cons 1 (.arrB 1) .nil))
abbrev pL32:PL:=(.cons (.int .i32) .nil)
abbrev pL33:PL:=(.cons (.int .u32) (.cons .bool .nil))
abbrev Q34:Type:=(Int×Bool×Unit×Unit)×(ByteArray×Nat)×Unit
abbrev pT35:PT:=(.cons 2 (.int .u32) (.cons 3 .bool (.cons 16 (.it 320) .nil)))
abbrev pH36:PH:=(.cons 320 .iter .nil)
abbrev Q37:Type:=Int×Int×Int×Int×Int×Unit
abbrev Q38:Type:=(Unit×Bool×Unit×Int×Int×Unit)×List Eng.V×(List Eng.V×Bool×Bool)×Unit
abbrev pT39:PT:=(.cons 2 (.pea 96) (.cons 3 .bool (.cons 13 (.sla 192) (.cons 14 (.int .i64) (.cons 15 (.int .i64) .nil)))))
abbrev pH40:PH:=(.cons 96 (.arr 5 true false) (.cons 192 (.arrB 1) .nil))
abbrev pL41:PL:=(.cons (.agg (.cons (.int .u32) (.cons (.int .u32) (.cons (.int .u32) (.cons (.int .u32) (.cons (.int .u32) .nil)))))) (.cons .bool .nil))
abbrev pL42:PL:=(.cons .str (.cons .str (.cons .bool .nil)))
abbrev Q43:Type:=(Unit×Unit×Int×Int×Unit)×(List Eng.V×Bool×Bool)×List Eng.V×Unit
abbrev pT44:PT:=(.cons 2 (.sla 368) (.cons 6 (.sla 160) (.cons 7 (.int .i64) (.cons 8 (.int .i64) .nil))))
abbrev pH45:PH:=(.cons 160 (.arrB 1) (.cons 368 (.arr 4 true false) .nil))
abbrev pH46:PH:=(.cons 0 (.arrB 4) .nil)
abbrev pL47:PL:=(.cons (.int .i64) (.cons (.int .i64) (.cons .bool .nil)))
abbrev pL48:PL:=(.cons (.slN 3) .nil)
abbrev pH49:PH:=(.cons 0 (.arrB 3) .nil)
abbrev pL50:PL:=(.cons (.int .i64) (.cons (.int .i64) (.cons (.int .i64) (.cons .bool .nil))))
abbrev Q51:Type:=Int×Int×Bool×Unit
abbrev pL52:PL:=(.cons (.int .i64) (.cons (.agg (.cons (.int .i64) (.cons (.int .i64) (.cons .bool .nil)))) (.cons (.int .i64) .nil)))
abbrev Q53:Type:=List Eng.V×Bool×Int×Unit
abbrev Q54:Type:=(Unit×Int×Int×Int×List Eng.V×Int×Int×Unit)×(List Eng.V×Bool×Int×Unit)×Unit
abbrev pT55:PT:=(.cons 1 (.ptr 80 0) (.cons 2 (.int .i64) (.cons 3 (.int .i64) (.cons 4 (.int .i64) (.cons 11 (.slN 3) (.cons 12 (.int .i64) (.cons 13 (.int .i64) .nil)))))))
abbrev pH56:PH:=(.cons 80 (.cells [.sl 3,.bool,.int .i64] (.cons (.slN 3) (.cons .bool (.cons (.int .i64) .nil)))) .nil)
abbrev pL57:PL:=(.cons (.agg (.cons (.slN 3) (.cons .bool (.cons (.int .i64) .nil)))) .nil)
abbrev Q58:Type:=Unit×Bool×Int×Unit
abbrev pL59:PL:=(.cons (.agg (.cons (.slN 3) (.cons .bool (.cons (.int .i64) .nil)))) (.cons (.agg (.cons (.int .i64) (.cons (.int .i64) (.cons .bool .nil)))) .nil))
abbrev pL60:PL:=(.cons (.agg (.cons (.sla 0) (.cons .bool (.cons (.int .i64) .nil)))) (.cons (.int .i64) .nil))
abbrev Q61:Type:=List (Go.Value×Eng.V)
abbrev pL62:PL:=(.cons (.ptr 0 0) (.cons (.int .i64) (.cons (.int .i64) .nil)))
abbrev pH63:PH:=(.cons 0 (.cells [.sl 3,.bool,.int .i64,.int .i64,.bool,.oth] (.cons (.slN 3) (.cons .bool (.cons (.int .i64) (.cons (.int .i64) (.cons .bool (.cons (.mp 1) .nil))))))) (.cons 1 .mapI .nil))
abbrev pH64:PH:=(.cons 0 (.cells [.sl 3,.bool,.int .i64,.int .i64,.bool,.oth] (.cons (.sla 1) (.cons .bool (.cons (.int .i64) (.cons (.int .i64) (.cons .bool (.cons (.mp 2) .nil))))))) (.cons 1 (.arrB 3) (.cons 2 .mapI .nil)))
abbrev Q65:Type:=ByteArray×List Eng.V×List Eng.V×Bool×Unit
abbrev pL66:PL:=(.cons (.ptr 0 0) (.cons (.int .i64) (.cons (.agg (.cons .str (.cons (.slN 1) (.cons (.slN 1) (.cons .bool .nil))))) .nil)))
abbrev Q67:Type:=Int×Int×Unit
abbrev pL68:PL:=(.cons (.agg (.cons (.sla 0) (.cons .bool (.cons (.int .i64) .nil)))) (.cons (.agg (.cons (.int .i64) (.cons (.int .i64) .nil))) .nil))
abbrev pL69:PL:=(.cons (.nl 1) (.cons (.int .i64) .nil))
abbrev Q70:Type:=(List Eng.V×Unit×Int×List Eng.V×Int×Int×Unit)×Unit
abbrev Q71:Type:=(Unit×Unit×List Eng.V×Int×Int×Unit)×(List Eng.V×Bool×Bool)×Unit
abbrev pT72:PT:=(.cons 2 (.nl 0) (.cons 6 (.sla 448) (.cons 25 (.slN 1) (.cons 26 (.int .i64) (.cons 27 (.int .i64) .nil)))))
abbrev pH73:PH:=(.cons 448 (.arrB 1) .nil)
abbrev pT74:PT:=(.cons 0 (.slN 1) (.cons 2 (.nl 0) (.cons 3 (.int .i64) (.cons 9 (.slN 1) (.cons 10 (.int .i64) (.cons 11 (.int .i64) .nil))))))
abbrev pL75:PL:=(.cons (.slN 1) .nil)
abbrev pL76:PL:=(.cons (.int .u32) (.cons (.int .i64) .nil))
abbrev pL77:PL:=(.cons (.int .u32) .nil)
abbrev pL78:PL:=(.cons (.ptr 0 0) (.cons (.int .u32) (.cons (.int .u32) (.cons (.int .u32) .nil))))
abbrev pH79:PH:=(.cons 0 (.cells [.int .u32,.int .u32,.int .u32,.int .u32,.int .u32] (.cons (.int .u32) (.cons (.int .u32) (.cons (.int .u32) (.cons (.int .u32) (.cons (.int .u32) .nil)))))) .nil)
abbrev Q80:Type:=(Unit×List Eng.V×Unit×Int×Unit)×(Int×Int×Int×Int×Int×Unit)×List Eng.V×Unit
abbrev Q81:Type:=(Unit×Unit×Int×Unit)×(Int×Int×Int×Int×Int×Unit)×List Eng.V×Unit
abbrev Q82:Type:=(Unit×Unit×List Eng.V×Int×Unit)×(Int×Int×Int×Int×Int×Unit)×(Int×Int×Int×Int×Int×Unit)×Unit
abbrev pT83:PT:=(.cons 0 (.ptr 0 0) (.cons 9 (.ptr 208 0) (.cons 72 .aggS (.cons 73 (.int .i64) .nil))))
abbrev pH84:PH:=(.cons 0 (.cells [.int .u32,.int .u32,.int .u32,.int .u32,.int .u32] (.cons (.int .u32) (.cons (.int .u32) (.cons (.int .u32) (.cons (.int .u32) (.cons (.int .u32) .nil)))))) (.cons 208 (.cells [.int .u32,.int .u32,.int .u32,.int .u32,.int .u32] (.cons (.int .u32) (.cons (.int .u32) (.cons (.int .u32) (.cons (.int .u32) (.cons (.int .u32) .nil)))))) .nil))
abbrev pT85:PT:=(.cons 0 (.ptr 0 0) (.cons 4 (.pea 128) (.cons 8 (.int .i64) .nil)))
abbrev pH86:PH:=(.cons 0 (.cells [.int .u32,.int .u32,.int .u32,.int .u32,.int .u32] (.cons (.int .u32) (.cons (.int .u32) (.cons (.int .u32) (.cons (.int .u32) (.cons (.int .u32) .nil)))))) (.cons 128 (.arr 80 true false) .nil))
abbrev Q87:Type:=(Unit×List Eng.V×Unit×Int×Int×List Eng.V×Int×Int×Unit)×(Int×Int×Int×Int×Int×Unit)×List Eng.V×Unit
abbrev pT88:PT:=(.cons 0 (.ptr 0 0) (.cons 1 (.slN 1) (.cons 4 (.pea 128) (.cons 5 (.int .i64) (.cons 17 (.int .i64) (.cons 26 (.slN 1) (.cons 27 (.int .i64) (.cons 28 (.int .i64) .nil))))))))
abbrev pT89:PT:=(.cons 0 (.ptr 0 0) (.cons 1 (.slN 1) (.cons 4 (.pea 128) (.cons 17 (.int .i64) .nil))))
abbrev pL90:PL:=(.cons (.ptr 0 0) (.cons (.slN 1) .nil))
abbrev Q91:Type:=Int×Int×Int×Int×Int×Int×Int×Int×Int×Int×Int×Int×Int×Int×Int×Int×Int×Int×Int×Int×Unit
abbrev Q92:Type:=(Unit×Unit×Int×Int×Unit)×List Eng.V×(List Eng.V×Bool×Bool)×Unit
abbrev Q93:Type:=(Unit×List Eng.V×Unit×Unit)×List Eng.V×(Int×Int×Int×Int×Int×Unit)×Unit
abbrev Q94:Type:=(Unit×Unit×Int×Unit)×List Eng.V×(Int×Int×Int×Int×Int×Unit)×Unit
abbrev pT95:PT:=(.cons 2 (.pea 96) (.cons 6 (.ptr 160 0) (.cons 45 (.int .i64) .nil)))
abbrev pH96:PH:=(.cons 96 (.arr 20 true false) (.cons 160 (.cells [.int .u32,.int .u32,.int .u32,.int .u32,.int .u32] (.cons (.int .u32) (.cons (.int .u32) (.cons (.int .u32) (.cons (.int .u32) (.cons (.int .u32) .nil)))))) .nil))
abbrev pT97:PT:=(.cons 2 (.pea 96) (.cons 3 (.slN 1) (.cons 6 (.ptr 160 0) .nil)))
abbrev pT98:PT:=(.cons 2 (.pea 96) (.cons 3 (.sla 208) (.cons 4 (.int .u64) (.cons 5 (.int .i64) .nil))))
abbrev pH99:PH:=(.cons 96 (.arr 20 true false) (.cons 208 (.arrB 1) .nil))
abbrev pL100:PL:=(.cons (.agg (.cons (.int .u8) (.cons (.int .u8) (.cons (.int .u8) (.cons (.int .u8) (.cons (.int .u8) (.cons (.int .u8) (.cons (.int .u8) (.cons (.int .u8) (.cons (.int .u8) (.cons (.int .u8) (.cons (.int .u8) (.cons (.int .u8) (.cons (.int .u8) (.cons (.int .u8) (.cons (.int .u8) (.cons (.int .u8) (.cons (.int .u8) (.cons (.int .u8) (.cons (.int .u8) (.cons (.int .u8) .nil))))))))))))))))))))) .nil)
abbrev Q101:Type:=(List Eng.V×Unit×Unit×Unit×Int×Int×Unit)×List Eng.V×List Eng.V×List Eng.V×Unit
abbrev Q102:Type:=(List Eng.V×Unit×Unit×ByteArray×Unit×Int×Int×List Eng.V×Int×Int×Unit)×List Eng.V×List Eng.V×List Eng.V×Unit
abbrev pT103:PT:=(.cons 0 (.slN 4) (.cons 2 (.pea 96) (.cons 3 (.sla 640) (.cons 5 .str (.cons 8 (.sla 192) (.cons 9 (.int .i64) (.cons 10 (.int .i64) (.cons 14 (.slN 4) (.cons 15 (.int .i64) (.cons 16 (.int .i64) .nil))))))))))
abbrev pH104:PH:=(.cons 96 (.arr 20 true false) (.cons 192 (.arr 1 true false) (.cons 640 (.arr 1 true false) .nil)))
abbrev pT105:PT:=(.cons 0 (.slN 4) (.cons 2 (.pea 96) (.cons 3 (.sla 640) (.cons 8 (.sla 192) (.cons 9 (.int .i64) (.cons 10 (.int .i64) .nil))))))
abbrev pL106:PL:=(.cons (.slN 4) .nil)
abbrev Q107:Type:=(Unit×(Int×Int×Int×Int×Int×Int×Int×Int×Int×Int×Int×Int×Int×Int×Int×Int×Int×Int×Int×Int×Unit)×Int×Unit)×List Eng.V×Unit
abbrev pT108:PT:=(.cons 2 (.pea 96) (.cons 5 (.agg (.cons (.int .u8) (.cons (.int .u8) (.cons (.int .u8) (.cons (.int .u8) (.cons (.int .u8) (.cons (.int .u8) (.cons (.int .u8) (.cons (.int .u8) (.cons (.int .u8) (.cons (.int .u8) (.cons (.int .u8) (.cons (.int .u8) (.cons (.int .u8) (.cons (.int .u8) (.cons (.int .u8) (.cons (.int .u8) (.cons (.int .u8) (.cons (.int .u8) (.cons (.int .u8) (.cons (.int .u8) .nil))))))))))))))))))))) (.cons 6 (.int .i64) .nil)))
abbrev pH109:PH:=(.cons 96 (.arr 5 true false) .nil)
abbrev pL110:PL:=(.cons (.agg (.cons (.int .u32) (.cons (.int .u32) (.cons (.int .u32) (.cons (.int .u32) (.cons (.int .u32) .nil)))))) .nil)
abbrev Q111:Type:=(ByteArray×Unit×Unit×(Unit×Unit)×Unit×Unit×Unit×Int×Int×Unit)×(List Eng.V×Bool×Int×Unit)×(Int×Int×Unit)×(List Eng.V×Bool×Int×Int×Bool×Unit×Unit)×List (Go.Value×Eng.V)×(List Eng.V×Bool×Bool)×Unit
abbrev pT112:PT:=(.cons 0 .str (.cons 2 (.ptr 96 0) (.cons 3 (.ptr 112 0) (.cons 4 (.fn (.func 18) .nil .nil) (.cons 5 (.ptr 144 0) (.cons 6 (.sla 336) (.cons 18 (.sla 336) (.cons 19 (.int .i64) (.cons 20 (.int .i64) .nil)))))))))
abbrev pH113:PH:=(.cons 96 (.cells [.sl 3,.bool,.int .i64] (.cons (.slN 3) (.cons .bool (.cons (.int .i64) .nil)))) (.cons 112 (.cells [.int .i64,.int .i64] (.cons (.int .i64) (.cons (.int .i64) .nil))) (.cons 144 (.cells [.sl 3,.bool,.int .i64,.int .i64,.bool,.oth] (.cons (.slN 3) (.cons .bool (.cons (.int .i64) (.cons (.int .i64) (.cons .bool (.cons (.mp 288) .nil))))))) (.cons 288 .mapI (.cons 336 (.arrB 4) .nil)))))
abbrev Q114:Type:=(ByteArray×Unit×(Int×Int×Int×Int×Int×Int×Int×Int×Int×Int×Int×Int×Int×Int×Int×Int×Int×Int×Int×Int×Unit)×Int×Unit)×List Eng.V×Unit
abbrev pT115:PT:=(.cons 2 .str (.cons 3 (.sla 416) (.cons 6 (.agg (.cons (.int .u8) (.cons (.int .u8) (.cons (.int .u8) (.cons (.int .u8) (.cons (.int .u8) (.cons (.int .u8) (.cons (.int .u8) (.cons (.int .u8) (.cons (.int .u8) (.cons (.int .u8) (.cons (.int .u8) (.cons (.int .u8) (.cons (.int .u8) (.cons (.int .u8) (.cons (.int .u8) (.cons (.int .u8) (.cons (.int .u8) (.cons (.int .u8) (.cons (.int .u8) (.cons (.int .u8) .nil))))))))))))))))))))) (.cons 7 (.int .i64) .nil))))
abbrev pH116:PH:=(.cons 416 (.arr 1 true false) .nil)
abbrev Q117:Type:=(Unit×ByteArray×Unit×Int×Unit)×(Int×Int×Int×Int×Int×Unit)×List Eng.V×Unit
abbrev Q118:Type:=(ByteArray×ByteArray×Unit×Int×Int×Unit)×List Eng.V×Unit
abbrev pT119:PT:=(.cons 2 .str (.cons 5 .str (.cons 6 (.sla 480) (.cons 28 (.int .i64) (.cons 29 (.int .i64) .nil)))))
abbrev pH120:PH:=(.cons 480 (.arr 1 true false) .nil)
abbrev pT121:PT:=(.cons 1 (.ptr 80 0) (.cons 2 .str (.cons 3 (.pea 112) (.cons 8 (.int .i64) .nil))))
abbrev pH122:PH:=(.cons 80 (.cells [.int .u32,.int .u32,.int .u32,.int .u32,.int .u32] (.cons (.int .u32) (.cons (.int .u32) (.cons (.int .u32) (.cons (.int .u32) (.cons (.int .u32) .nil)))))) (.cons 112 (.arr 20 true false) .nil))
abbrev Q123:Type:=(ByteArray×Bool×ByteArray×Int×List Eng.V×Int×Int×Unit)×Unit
abbrev pT124:PT:=(.cons 4 .str (.cons 5 .bool (.cons 6 .str (.cons 9 (.int .i64) (.cons 42 (.slN 3) (.cons 43 (.int .i64) (.cons 44 (.int .i64) .nil)))))))
abbrev pL125:PL:=(.cons (.agg (.cons (.slN 3) (.cons .bool (.cons (.int .i64) .nil)))) (.cons (.int .i64) .nil))
abbrev pL126:PL:=(.cons .str (.cons .bool .nil))
abbrev Q127:Type:=(Unit×Unit×Bool×Int×Unit)×(List Eng.V×Bool×Int×Unit)×(List Eng.V×Bool×Int×Unit)×Unit
abbrev pT128:PT:=(.cons 2 (.ptr 96 0) (.cons 3 (.ptr 112 0) (.cons 4 .bool (.cons 5 (.int .i64) .nil))))
abbrev pH129:PH:=(.cons 96 (.cells [.sl 3,.bool,.int .i64] (.cons (.slN 3) (.cons .bool (.cons (.int .i64) .nil)))) (.cons 112 (.cells [.sl 3,.bool,.int .i64] (.cons (.slN 3) (.cons .bool (.cons (.int .i64) .nil)))) .nil))
abbrev pL130:PL:=(.cons (.agg (.cons (.slN 3) (.cons .bool (.cons (.int .i64) .nil)))) (.cons (.agg (.cons (.slN 3) (.cons .bool (.cons (.int .i64) .nil)))) .nil))
abbrev Q131:Type:=(ByteArray×Unit×Unit×Int×Int×Unit)×List Eng.V×Unit
abbrev pT132:PT:=(.cons 0 .str (.cons 2 (.nl 0) (.cons 3 (.sla 672) (.cons 4 (.int .i64) (.cons 5 (.int .i64) .nil)))))
abbrev pH133:PH:=(.cons 672 (.arr 1 true false) .nil)
abbrev pL134:PL:=(.cons (.int .u8) .nil)
abbrev Q135:Type:=(ByteArray×Unit×Unit×Int×Unit)×List Eng.V×Unit
abbrev pT136:PT:=(.cons 0 .str (.cons 2 (.nl 0) (.cons 3 (.sla 672) (.cons 4 (.int .i64) .nil))))
abbrev Q137:Type:=(ByteArray×Int×Bool×Int×Int×Unit)×Unit
abbrev pT138:PT:=(.cons 0 .str (.cons 2 (.int .u32) (.cons 3 .bool (.cons 4 (.int .u32) (.cons 5 (.int .i64) .nil)))))
abbrev Q139:Type:=(Unit×Bool×Unit×Unit×Int×Unit)×List Eng.V×List Eng.V×(List Eng.V×Bool×Bool)×Unit
abbrev pT140:PT:=(.cons 2 (.pea 96) (.cons 3 .bool (.cons 4 (.sla 224) (.cons 5 (.pea 144) (.cons 6 (.int .i64) .nil)))))
abbrev pH141:PH:=(.cons 96 (.arr 5 true false) (.cons 144 (.arr 5 true false) (.cons 224 (.arrB 1) .nil)))
abbrev pT142:PT:=(.cons 0 .str (.cons 2 (.int .i64) (.cons 3 .bool (.cons 4 (.int .i64) (.cons 5 (.int .i64) .nil)))))
abbrev Q143:Type:=(ByteArray×ByteArray×ByteArray×ByteArray×Bool×Int×Unit)×Unit
abbrev pT144:PT:=(.cons 0 .str (.cons 1 .str (.cons 4 .str (.cons 5 .str (.cons 6 .bool (.cons 7 (.int .i64) .nil))))))
abbrev Q145:Type:=Int×Bool×Unit×Int×Int×Unit
abbrev pL146:PL:=(.cons (.agg (.cons (.int .i64) (.cons .bool (.cons (.sla 0) (.cons (.int .i64) (.cons (.int .i64) .nil)))))) .nil)
abbrev Q147:Type:=(Unit×Unit×Unit×Int×Unit)×(List Eng.V×Bool×Bool)×List Eng.V×Unit
abbrev pT148:PT:=(.cons 2 (.nl 0) (.cons 3 (.sla 432) (.cons 4 (.sla 176) (.cons 5 (.int .i64) .nil))))
abbrev pH149:PH:=(.cons 176 (.arrB 1) (.cons 432 (.arr 5 true false) .nil))
abbrev pH150:PH:=(.cons 0 (.arrB 5) .nil)
abbrev Q151:Type:=(List Eng.V×Int×Int×Int×Unit)×Unit
abbrev pT152:PT:=(.cons 0 (.slN 5) (.cons 1 (.int .i64) (.cons 4 (.int .i64) (.cons 5 (.int .i64) .nil))))
abbrev pL153:PL:=(.cons (.slN 5) (.cons (.int .i64) .nil))
abbrev pL154:PL:=(.cons (.agg (.cons (.sla 0) (.cons .bool (.cons (.int .i64) .nil)))) .nil)
abbrev Q155:Type:=(Int×Int×Int×Int×Bool×Int×Unit)×Unit
abbrev Q156:Type:=(Int×Int×Int×Bool×Int×Int×Int×Unit)×Unit
abbrev pT157:PT:=(.cons 2 (.int .i64) (.cons 3 (.int .i64) (.cons 4 (.int .i64) (.cons 5 .bool (.cons 6 (.int .i64) (.cons 7 (.int .i64) (.cons 8 (.int .i64) .nil)))))))
abbrev pT158:PT:=(.cons 0 (.int .i64) (.cons 2 (.int .i64) (.cons 3 (.int .i64) (.cons 4 (.int .i64) (.cons 5 .bool (.cons 6 (.int .i64) .nil))))))
abbrev Q159:Type:=(Unit×Int×Int×Int×Int×Unit)×(List Eng.V×Bool×Int×Unit)×Unit
abbrev pT160:PT:=(.cons 1 (.ptr 80 0) (.cons 2 (.int .i64) (.cons 3 (.int .i64) (.cons 4 (.int .i64) (.cons 5 (.int .i64) .nil)))))
abbrev Q161:Type:=Int×Bool×List Eng.V×Int×Int×Unit
abbrev pL162:PL:=(.cons (.agg (.cons (.slN 3) (.cons .bool (.cons (.int .i64) .nil)))) (.cons (.agg (.cons (.int .i64) (.cons .bool (.cons (.slN 1) (.cons (.int .i64) (.cons (.int .i64) .nil)))))) (.cons (.int .i64) .nil)))
abbrev Q163:Type:=(List Eng.V×ByteArray×ByteArray×Int×Unit)×Unit
abbrev Q164:Type:=(List Eng.V×ByteArray×ByteArray×Int×Int×Unit)×Unit
abbrev Q165:Type:=(List Eng.V×ByteArray×ByteArray×Int×Int×Int×Unit)×Unit
abbrev pT166:PT:=(.cons 0 (.slN 5) (.cons 2 .str (.cons 3 .str (.cons 4 (.int .i64) (.cons 5 (.int .i64) (.cons 6 (.int .i64) .nil))))))
abbrev pT167:PT:=(.cons 0 (.slN 5) (.cons 2 .str (.cons 3 .str (.cons 4 (.int .i64) (.cons 5 (.int .i64) .nil)))))
abbrev pT168:PT:=(.cons 0 (.slN 5) (.cons 2 .str (.cons 3 .str (.cons 4 (.int .i64) .nil))))
abbrev pL169:PL:=(.cons (.slN 5) .nil)
abbrev Q170:Type:=(List Eng.V×Unit×Unit×Unit)×List Eng.V×Unit
abbrev Q171:Type:=(Unit×Unit×Int×Int×Unit)×List Eng.V×Unit
abbrev pT172:PT:=(.cons 2 (.nl 0) (.cons 3 (.sla 160) (.cons 4 (.int .u64) (.cons 5 (.int .i64) .nil))))
abbrev pH173:PH:=(.cons 160 (.arr 1 true false) .nil)
abbrev pT174:PT:=(.cons 0 (.slN 1) (.cons 2 (.nl 0) (.cons 3 (.sla 160) .nil)))
abbrev pL175:PL:=(.cons (.int .i64) (.cons (.int .u32) (.cons (.int .u32) (.cons (.int .u32) .nil))))
abbrev Q176:Type:=(List Eng.V×Unit×Unit×Unit×Int×Unit)×(Int×Int×Int×Int×Int×Unit)×List Eng.V×List Eng.V×Unit
abbrev Q177:Type:=(Unit×Unit×Unit×Int×Unit)×(Int×Int×Int×Int×Int×Unit)×List Eng.V×List Eng.V×Unit
abbrev Q178:Type:=(Unit×Unit×Unit×Unit×Int×Unit)×(Int×Int×Int×Int×Int×Unit)×List Eng.V×List Eng.V×List Eng.V×Unit
abbrev pT179:PT:=(.cons 2 (.ptr 96 0) (.cons 4 (.pea 128) (.cons 8 (.pea 192) (.cons 11 (.int .i64) .nil))))
abbrev pH180:PH:=(.cons 96 (.cells [.int .u32,.int .u32,.int .u32,.int .u32,.int .u32] (.cons (.int .u32) (.cons (.int .u32) (.cons (.int .u32) (.cons (.int .u32) (.cons (.int .u32) .nil)))))) (.cons 128 (.arr 5 true false) (.cons 192 (.arr 5 true false) .nil)))
abbrev pT181:PT:=(.cons 2 (.ptr 96 0) (.cons 4 (.pea 128) (.cons 5 (.sla 2192) (.cons 8 (.pea 192) (.cons 9 (.int .i64) .nil)))))
abbrev pH182:PH:=(.cons 96 (.cells [.int .u32,.int .u32,.int .u32,.int .u32,.int .u32] (.cons (.int .u32) (.cons (.int .u32) (.cons (.int .u32) (.cons (.int .u32) (.cons (.int .u32) .nil)))))) (.cons 128 (.arr 5 true false) (.cons 192 (.arr 5 true false) (.cons 2192 (.arr 1 true false) .nil))))
abbrev pT183:PT:=(.cons 2 (.ptr 96 0) (.cons 4 (.pea 128) (.cons 5 (.sla 2192) (.cons 7 (.int .i64) .nil))))
abbrev pH184:PH:=(.cons 96 (.cells [.int .u32,.int .u32,.int .u32,.int .u32,.int .u32] (.cons (.int .u32) (.cons (.int .u32) (.cons (.int .u32) (.cons (.int .u32) (.cons (.int .u32) .nil)))))) (.cons 128 (.arr 5 true false) (.cons 2192 (.arr 1 true false) .nil)))
abbrev pT185:PT:=(.cons 1 (.slN 1) (.cons 2 (.ptr 96 0) (.cons 4 (.pea 128) (.cons 5 (.sla 2192) (.cons 6 (.int .i64) .nil)))))
abbrev pL186:PL:=(.cons (.agg (.cons (.int .u32) (.cons (.int .u32) (.cons (.int .u32) (.cons (.int .u32) (.cons (.int .u32) .nil)))))) (.cons (.slN 1) .nil))
abbrev Q187:Type:=(Unit×Unit×Unit×Int×Unit)×List Eng.V×List Eng.V×(List Eng.V×Bool×Bool)×Unit
abbrev Q188:Type:=(Unit×Unit×Unit×Int×Unit)×List Eng.V×List Eng.V×List Eng.V×Unit
abbrev pT189:PT:=(.cons 2 (.pea 96) (.cons 3 (.pea 112) (.cons 6 (.pea 160) (.cons 7 (.int .i64) .nil))))
abbrev pH190:PH:=(.cons 96 (.arr 20 true false) (.cons 112 (.arr 5 true false) (.cons 160 (.arr 20 true false) .nil)))
abbrev pT191:PT:=(.cons 2 (.pea 96) (.cons 3 (.pea 112) (.cons 4 (.sla 224) (.cons 5 (.int .i64) .nil))))
abbrev pH192:PH:=(.cons 96 (.arr 20 true false) (.cons 112 (.arr 5 true false) (.cons 224 (.arrB 1) .nil)))
abbrev Q193:Type:=(Unit×Unit×Unit×Int×Unit)×(Int×Int×Int×Int×Int×Int×Int×Int×Int×Int×Int×Int×Int×Int×Int×Int×Int×Int×Int×Int×Unit)×List Eng.V×List Eng.V×Unit
abbrev pT194:PT:=(.cons 1 (.ptr 80 0) (.cons 2 (.pea 96) (.cons 3 (.pea 112) (.cons 4 (.int .i64) .nil))))
abbrev pH195:PH:=(.cons 80 (.cells [.int .u8,.int .u8,.int .u8,.int .u8,.int .u8,.int .u8,.int .u8,.int .u8,.int .u8,.int .u8,.int .u8,.int .u8,.int .u8,.int .u8,.int .u8,.int .u8,.int .u8,.int .u8,.int .u8,.int .u8] (.cons (.int .u8) (.cons (.int .u8) (.cons (.int .u8) (.cons (.int .u8) (.cons (.int .u8) (.cons (.int .u8) (.cons (.int .u8) (.cons (.int .u8) (.cons (.int .u8) (.cons (.int .u8) (.cons (.int .u8) (.cons (.int .u8) (.cons (.int .u8) (.cons (.int .u8) (.cons (.int .u8) (.cons (.int .u8) (.cons (.int .u8) (.cons (.int .u8) (.cons (.int .u8) (.cons (.int .u8) .nil))))))))))))))))))))) (.cons 96 (.arr 5 true false) (.cons 112 (.arr 5 true false) .nil)))
abbrev Q196:Type:=(ByteArray×Unit×Unit×Unit×Unit×Int×Int×Unit)×(List Eng.V×Bool×Int×Unit)×(Int×Int×Unit)×(List Eng.V×Bool×Int×Unit)×(List Eng.V×Bool×Bool)×Unit
abbrev pT197:PT:=(.cons 0 .str (.cons 2 (.ptr 96 0) (.cons 3 (.ptr 112 0) (.cons 4 (.sla 336) (.cons 5 (.ptr 144 0) (.cons 6 (.int .i64) (.cons 7 (.int .i64) .nil)))))))
abbrev pH198:PH:=(.cons 96 (.cells [.sl 3,.bool,.int .i64] (.cons (.slN 3) (.cons .bool (.cons (.int .i64) .nil)))) (.cons 112 (.cells [.int .i64,.int .i64] (.cons (.int .i64) (.cons (.int .i64) .nil))) (.cons 144 (.cells [.sl 3,.bool,.int .i64] (.cons (.slN 3) (.cons .bool (.cons (.int .i64) .nil)))) (.cons 336 (.arrB 5) .nil))))
abbrev Q199:Type:=(Unit×ByteArray×ByteArray×ByteArray×Int×Unit)×(Int×Int×Int×Int×Int×Unit)×Unit
abbrev Q200:Type:=(Unit×ByteArray×ByteArray×ByteArray×Int×Int×Unit)×(Int×Int×Int×Int×Int×Unit)×Unit
abbrev pT201:PT:=(.cons 1 (.ptr 80 0) (.cons 2 .str (.cons 3 .str (.cons 4 .str (.cons 5 (.int .i64) (.cons 6 (.int .i64) .nil))))))
abbrev pH202:PH:=(.cons 80 (.cells [.int .u32,.int .u32,.int .u32,.int .u32,.int .u32] (.cons (.int .u32) (.cons (.int .u32) (.cons (.int .u32) (.cons (.int .u32) (.cons (.int .u32) .nil)))))) .nil)
abbrev pT203:PT:=(.cons 1 (.ptr 80 0) (.cons 2 .str (.cons 3 .str (.cons 4 .str (.cons 5 (.int .i64) .nil)))))
abbrev Q204:Type:=(Unit×ByteArray×Bool×ByteArray×Int×Int×Unit)×(List Eng.V×Bool×Int×Unit)×Unit
abbrev pT205:PT:=(.cons 2 (.ptr 96 0) (.cons 4 .str (.cons 5 .bool (.cons 6 .str (.cons 9 (.int .i64) (.cons 10 (.int .i64) .nil))))))
abbrev pH206:PH:=(.cons 96 (.cells [.sl 3,.bool,.int .i64] (.cons (.slN 3) (.cons .bool (.cons (.int .i64) .nil)))) .nil)
abbrev pL207:PL:=(.cons .str (.cons (.agg (.cons (.slN 3) (.cons .bool (.cons (.int .i64) .nil)))) (.cons (.int .i64) .nil)))
abbrev Tq0y:Type:=(ByteArray→Prop)→Prop
def Yq0y (K:ByteArray→Prop):Prop :=
 K (ByteArray.mk (List.toArray (List.append [(35:UInt8),(9:UInt8),(114:UInt8),(101:UInt8),(109:UInt8),(97:UInt8),(114:UInt8),(107:UInt8),(10:UInt8),(35:UInt8),(36:UInt8),(9:UInt8),(32:UInt8),(51:UInt8),(54:UInt8),(55:UInt8),(54:UInt8),(57:UInt8),(50:UInt8),(52:UInt8),(56:UInt8),(48:UInt8),(48:UInt8),(10:UInt8),(35:UInt8),(10:UInt8),(35:UInt8),(64:UInt8),(9:UInt8),(51:UInt8),(55:UInt8),(48:UInt8),(55:UInt8),(53:UInt8),(57:UInt8),(54:UInt8),(56:UInt8),(48:UInt8),(48:UInt8),(10:UInt8),(35:UInt8),(10:UInt8),(50:UInt8),(50:UInt8),(55:UInt8),(50:UInt8),(48:UInt8),(54:UInt8),(48:UInt8),(56:UInt8),(48:UInt8),(48:UInt8),(9:UInt8),(49:UInt8),(48:UInt8)] [(9:UInt8),(35:UInt8),(32:UInt8),(49:UInt8),(32:UInt8),(74:UInt8),(97:UInt8),(110:UInt8),(32:UInt8),(49:UInt8),(57:UInt8),(55:UInt8),(50:UInt8),(10:UInt8),(50:UInt8),(50:UInt8),(56:UInt8),(55:UInt8),(55:UInt8),(56:UInt8),(53:UInt8),(54:UInt8),(48:UInt8),(48:UInt8),(9:UInt8),(49:UInt8),(49:UInt8),(9:UInt8),(35:UInt8),(32:UInt8),(49:UInt8),(32:UInt8),(74:UInt8),(117:UInt8),(108:UInt8),(32:UInt8),(49:UInt8),(57:UInt8),(55:UInt8),(50:UInt8),(13:UInt8),(10:UInt8),(50:UInt8),(51:UInt8),(48:UInt8),(51:UInt8),(54:UInt8),(56:UInt8),(51:UInt8),(50:UInt8),(48:UInt8),(48:UInt8),(32:UInt8),(49:UInt8),(50:UInt8),(10:UInt8)])))
def Xq0y:Tq0y:=Yq0y
def Jq0y (X:Tq0y):Inst:=mkI 17 .nil .nil pL0 .nil X
def Iq0y:Inst:=Jq0y Xq0y
theorem Eq0y:EqF Tryz.prog 1 gives Tryz.f17 [] [] (Jq0y (Yq0y)):=fun x y K=>by kernel_rfl
theorem Iq0y_ok:InstOk Tryz.prog G.1 Iq0y:=iok (gives:=gives) [] okNil 1 follows Tryz.func17 (by kernel_rfl) (fun x=>by kernel_rfl) (Eq0y)
abbrev Tq04:Type:=ByteArray→ByteArray→(Int→Prop)→Prop
def Yq04 (xq2d:Tq2d) (a0:ByteArray) (a1:ByteArray) (K:Int→Prop):Prop :=
 (if ((↑(ByteArray.size a1):Int) == 0) then
 K 0
 else
 (if (ByteArray.toList a1 == ByteArray.toList a0) then
 K 0
 else
 (if ((↑(ByteArray.size a1):Int) == 1) then
 (if (0 :Int)≤0∧0 < (↑(ByteArray.size a1):Int) then
 xq2d a0 (Eng.bAt a1 (0:Nat)) (fun r2 =>
 K r2)
 else
 False)
 else
 (if decide ((↑(ByteArray.size a1):Int)≥(↑(ByteArray.size a0):Int)) then
 K (-1)
 else
 False))))
def Xq04:Tq04:=Yq04 Xq2d
def Jq04 (X:Tq04):Inst:=mkI 110 pL1 .nil pL2 .nil X
def Iq04:Inst:=Jq04 Xq04
theorem Eq04 (xq2d:Tq2d):EqF Tryz.prog 143 gives Tryz.f110 [Jq2d xq2d] [] (Jq04 (Yq04 xq2d)):=fun x y K=>by kernel_rfl
theorem Iq04_ok:InstOk Tryz.prog G.1 Iq04:=iok (gives:=gives) [] (okCons Iq2d_ok okNil) 143 follows Tryz.func110 (by kernel_rfl) (fun x=>by kernel_rfl) (Eq04 Xq2d)
abbrev Tq1t:Type:=ByteArray→ByteArray→(Int→Prop)→Prop
def Yq1t (xq04:Tq04) (a0:ByteArray) (a1:ByteArray) (K:Int→Prop):Prop :=
 xq04 a0 a1 (fun r2 =>
 K r2)
def Xq1t:Tq1t:=Yq1t Xq04
def Jq1t (X:Tq1t):Inst:=mkI 118 pL1 .nil pL2 .nil X
def Iq1t:Inst:=Jq1t Xq1t
theorem Eq1t (xq04:Tq04):EqF Tryz.prog 8 gives Tryz.f118 [Jq04 xq04] [] (Jq1t (Yq1t xq04)):=fun x y K=>by kernel_rfl
theorem Iq1t_ok:InstOk Tryz.prog G.1 Iq1t:=iok (gives:=gives) [] (okCons Iq04_ok okNil) 8 follows Tryz.func118 (by kernel_rfl) (fun x=>by kernel_rfl) (Eq1t Xq04)
abbrev Tq0u:Type:=ByteArray→ByteArray→Int→Int→((List Eng.V)→Bool→Bool→Prop)→Prop
def Lq0u_0 (xq1t:Tq1t) (K:(List Eng.V)→Bool→Bool→Prop):(Q3→Prop)→Q3→Prop:=fun k6 x7 =>
 (if decide (x7.1.2.2.2.2.2.2.1 < x7.1.2.2.2.1) then
 xq1t x7.1.1 x7.1.2.1 (fun r8 =>
 (if decide (r8 < 0) then
 (if 0≤x7.1.2.2.2.2.2.2.1∧x7.1.2.2.2.2.2.2.1 < (↑(List.length x7.2.1):Int) then
 (if Int.toNat x7.1.2.2.2.2.2.2.1 < List.length x7.2.1 then
 (if 0≤w64 (x7.1.2.2.2.2.2.2.1+1)∧w64 (x7.1.2.2.2.2.2.2.1+1)≤(↑(List.length (List.set x7.2.1 (Int.toNat x7.1.2.2.2.2.2.2.1) (Eng.setE (List.getD x7.2.1 (Int.toNat x7.1.2.2.2.2.2.2.1) Eng.V.bad) (0:Nat) [Eng.V.c (Value.string x7.1.1)]))):Int) then
 (if (0 :Int)≤0∧0≤w64 (x7.1.2.2.2.2.2.2.1+1) then
 (if Nat.ble (Int.toNat (w64 (x7.1.2.2.2.2.2.2.1+1)) - (0:Nat)) (List.length (List.set x7.2.1 (Int.toNat x7.1.2.2.2.2.2.2.1) (Eng.setE (List.getD x7.2.1 (Int.toNat x7.1.2.2.2.2.2.2.1) Eng.V.bad) (0:Nat) [Eng.V.c (Value.string x7.1.1)]))) then
 (lt (List.take (Int.toNat (w64 (x7.1.2.2.2.2.2.2.1+1)) - (0:Nat)) (List.set x7.2.1 (Int.toNat x7.1.2.2.2.2.2.2.1) (Eng.setE (List.getD x7.2.1 (Int.toNat x7.1.2.2.2.2.2.2.1) Eng.V.bad) (0:Nat) [Eng.V.c (Value.string x7.1.1)]))) fun v9 =>
 K v9 true false)
 else
 K (Eng.cutL (List.set x7.2.1 (Int.toNat x7.1.2.2.2.2.2.2.1) (Eng.setE (List.getD x7.2.1 (Int.toNat x7.1.2.2.2.2.2.2.1) Eng.V.bad) (0:Nat) [Eng.V.c (Value.string x7.1.1)])) (0:Nat) (Int.toNat (w64 (x7.1.2.2.2.2.2.2.1+1)) - (0:Nat))) false true)
 else
 False)
 else
 False)
 else
 False)
 else
 False)
 else
 (if 0≤w64 (r8+x7.1.2.2.1)∧w64 (r8+x7.1.2.2.1)≤(↑(ByteArray.size x7.1.1):Int) then
 (if (0 :Int)≤0∧0≤w64 (r8+x7.1.2.2.1) then
 (lt (ByteArray.extract x7.1.1 (0:Nat) (Int.toNat (w64 (r8+x7.1.2.2.1)))) fun v10 =>
 (if 0≤x7.1.2.2.2.2.2.2.1∧x7.1.2.2.2.2.2.2.1 < (↑(List.length x7.2.1):Int) then
 (if Int.toNat x7.1.2.2.2.2.2.2.1 < List.length x7.2.1 then
 (if 0≤(↑(ByteArray.size x7.1.1):Int)∧(↑(ByteArray.size x7.1.1):Int)≤(↑(ByteArray.size x7.1.1):Int) then
 (if 0≤w64 (r8+(↑(ByteArray.size x7.1.2.1):Int))∧w64 (r8+(↑(ByteArray.size x7.1.2.1):Int))≤(↑(ByteArray.size x7.1.1):Int) then
 (lt (ByteArray.extract x7.1.1 (Int.toNat (w64 (r8+(↑(ByteArray.size x7.1.2.1):Int)))) (Int.toNat (↑(ByteArray.size x7.1.1):Int))) fun v11 =>
 k6 ((v11,x7.1.2.1,x7.1.2.2.1,x7.1.2.2.2.1,(),(),w64 (x7.1.2.2.2.2.2.2.1+1),()),List.set x7.2.1 (Int.toNat x7.1.2.2.2.2.2.2.1) (Eng.setE (List.getD x7.2.1 (Int.toNat x7.1.2.2.2.2.2.2.1) Eng.V.bad) (0:Nat) [Eng.V.c (Value.string v10)]),()))
 else
 False)
 else
 False)
 else
 False)
 else
 False))
 else
 False)
 else
 False)))
 else
 (if 0≤x7.1.2.2.2.2.2.2.1∧x7.1.2.2.2.2.2.2.1 < (↑(List.length x7.2.1):Int) then
 (if Int.toNat x7.1.2.2.2.2.2.2.1 < List.length x7.2.1 then
 (if 0≤w64 (x7.1.2.2.2.2.2.2.1+1)∧w64 (x7.1.2.2.2.2.2.2.1+1)≤(↑(List.length (List.set x7.2.1 (Int.toNat x7.1.2.2.2.2.2.2.1) (Eng.setE (List.getD x7.2.1 (Int.toNat x7.1.2.2.2.2.2.2.1) Eng.V.bad) (0:Nat) [Eng.V.c (Value.string x7.1.1)]))):Int) then
 (if (0 :Int)≤0∧0≤w64 (x7.1.2.2.2.2.2.2.1+1) then
 (if Nat.ble (Int.toNat (w64 (x7.1.2.2.2.2.2.2.1+1)) - (0:Nat)) (List.length (List.set x7.2.1 (Int.toNat x7.1.2.2.2.2.2.2.1) (Eng.setE (List.getD x7.2.1 (Int.toNat x7.1.2.2.2.2.2.2.1) Eng.V.bad) (0:Nat) [Eng.V.c (Value.string x7.1.1)]))) then
 (lt (List.take (Int.toNat (w64 (x7.1.2.2.2.2.2.2.1+1)) - (0:Nat)) (List.set x7.2.1 (Int.toNat x7.1.2.2.2.2.2.2.1) (Eng.setE (List.getD x7.2.1 (Int.toNat x7.1.2.2.2.2.2.2.1) Eng.V.bad) (0:Nat) [Eng.V.c (Value.string x7.1.1)]))) fun v12 =>
 K v12 true false)
 else
 K (Eng.cutL (List.set x7.2.1 (Int.toNat x7.1.2.2.2.2.2.2.1) (Eng.setE (List.getD x7.2.1 (Int.toNat x7.1.2.2.2.2.2.2.1) Eng.V.bad) (0:Nat) [Eng.V.c (Value.string x7.1.1)])) (0:Nat) (Int.toNat (w64 (x7.1.2.2.2.2.2.2.1+1)) - (0:Nat))) false true)
 else
 False)
 else
 False)
 else
 False)
 else
 False))
def Lq0u_0p:Lp:=⟨1807,[.trim 1807],pT4,pH5,0⟩
def Yq0u (xq2u:Tq2u) (xq1t:Tq1t) (a0:ByteArray) (a1:ByteArray) (a2:Int) (a3:Int) (K:(List Eng.V)→Bool→Bool→Prop):Prop :=
 (if (a3 == 0) then
 K [] true true
 else
 (if (ByteArray.toList a1 == ByteArray.toList (ByteArray.mk #[])) then
 False
 else
 (if decide (a3 < 0) then
 xq2u a0 a1 (fun r4 =>
 (lt (if w64 ((↑(ByteArray.size a0):Int)+1) < w64 (r4+1) then w64 ((↑(ByteArray.size a0):Int)+1) else w64 (r4+1)) fun v5 =>
 (if 0≤v5∧v5≤v5∧v5≤4294967296 then
 lp (Lq0u_0 xq1t K) ((a0,a1,a2,w64 (v5 - 1),(),(),0,()),List.replicate (Int.toNat v5) (Eng.ofVal (Value.string (ByteArray.mk #[]))),())
 else
 False)))
 else
 (lt (if w64 ((↑(ByteArray.size a0):Int)+1) < a3 then w64 ((↑(ByteArray.size a0):Int)+1) else a3) fun v13 =>
 (if 0≤v13∧v13≤v13∧v13≤4294967296 then
 lp (Lq0u_0 xq1t K) ((a0,a1,a2,w64 (v13 - 1),(),(),0,()),List.replicate (Int.toNat v13) (Eng.ofVal (Value.string (ByteArray.mk #[]))),())
 else
 False)))))
def Xq0u:Tq0u:=Yq0u Xq2u Xq1t
def Jq0u (X:Tq0u):Inst:=mkI 90 pL6 .nil pL7 pH8 X
def Iq0u:Inst:=Jq0u Xq0u
theorem Eq0u (xq2u:Tq2u) (xq1t:Tq1t):EqF Tryz.prog 66 gives Tryz.f90 [Jq2u xq2u,Jq1t xq1t] [Lq0u_0p] (Jq0u (Yq0u xq2u xq1t)):=fun x y K=>by kernel_rfl
theorem Iq0u_ok:InstOk Tryz.prog G.1 Iq0u:=iok (gives:=gives) [Lq0u_0p] (okCons Iq2u_ok (okCons Iq1t_ok okNil)) 66 follows Tryz.func90 (by kernel_rfl) (fun x=>by kernel_rfl) (Eq0u Xq2u Xq1t)
abbrev Tq1s:Type:=ByteArray→ByteArray→((List Eng.V)→Bool→Bool→Prop)→Prop
def Yq1s (xq0u:Tq0u) (a0:ByteArray) (a1:ByteArray) (K:(List Eng.V)→Bool→Bool→Prop):Prop :=
 xq0u a0 a1 0 (-1) (fun r2 r3 r4 =>
 K r2 r3 r4)
def Xq1s:Tq1s:=Yq1s Xq0u
def Jq1s (X:Tq1s):Inst:=mkI 56 pL1 .nil pL7 pH8 X
def Iq1s:Inst:=Jq1s Xq1s
theorem Eq1s (xq0u:Tq0u):EqF Tryz.prog 8 gives Tryz.f56 [Jq0u xq0u] [] (Jq1s (Yq1s xq0u)):=fun x y K=>by kernel_rfl
theorem Iq1s_ok:InstOk Tryz.prog G.1 Iq1s:=iok (gives:=gives) [] (okCons Iq0u_ok okNil) 8 follows Tryz.func56 (by kernel_rfl) (fun x=>by kernel_rfl) (Eq1s Xq0u)
abbrev Tq03:Type:=ByteArray→ByteArray→(Bool→Prop)→Prop
def Yq03 (a0:ByteArray) (a1:ByteArray) (K:Bool→Prop):Prop :=
 (if decide ((↑(ByteArray.size a0):Int)≥(↑(ByteArray.size a1):Int)) then
 (if 0≤(↑(ByteArray.size a0):Int)∧(↑(ByteArray.size a0):Int)≤(↑(ByteArray.size a0):Int) then
 (if 0≤w64 ((↑(ByteArray.size a0):Int) - (↑(ByteArray.size a1):Int))∧w64 ((↑(ByteArray.size a0):Int) - (↑(ByteArray.size a1):Int))≤(↑(ByteArray.size a0):Int) then
 (lt (ByteArray.extract a0 (Int.toNat (w64 ((↑(ByteArray.size a0):Int) - (↑(ByteArray.size a1):Int)))) (Int.toNat (↑(ByteArray.size a0):Int))) fun v2 =>
 K (ByteArray.toList v2 == ByteArray.toList a1))
 else
 False)
 else
 False)
 else
 K false)
def Xq03:Tq03:=Yq03
def Jq03 (X:Tq03):Inst:=mkI 119 pL1 .nil pL9 .nil X
def Iq03:Inst:=Jq03 Xq03
theorem Eq03:EqF Tryz.prog 21 gives Tryz.f119 [] [] (Jq03 (Yq03)):=fun x y K=>by kernel_rfl
theorem Iq03_ok:InstOk Tryz.prog G.1 Iq03:=iok (gives:=gives) [] okNil 21 follows Tryz.func119 (by kernel_rfl) (fun x=>by kernel_rfl) (Eq03)
abbrev Tq01:Type:=ByteArray→ByteArray→(ByteArray→Prop)→Prop
def Yq01 (xq03:Tq03) (a0:ByteArray) (a1:ByteArray) (K:ByteArray→Prop):Prop :=
 xq03 a0 a1 (fun r2 =>
 (if r2 then
 (if 0≤w64 ((↑(ByteArray.size a0):Int) - (↑(ByteArray.size a1):Int))∧w64 ((↑(ByteArray.size a0):Int) - (↑(ByteArray.size a1):Int))≤(↑(ByteArray.size a0):Int) then
 (if (0 :Int)≤0∧0≤w64 ((↑(ByteArray.size a0):Int) - (↑(ByteArray.size a1):Int)) then
 (lt (ByteArray.extract a0 (0:Nat) (Int.toNat (w64 ((↑(ByteArray.size a0):Int) - (↑(ByteArray.size a1):Int))))) fun v3 =>
 K v3)
 else
 False)
 else
 False)
 else
 K a0))
def Xq01:Tq01:=Yq01 Xq03
def Jq01 (X:Tq01):Inst:=mkI 91 pL1 .nil pL0 .nil X
def Iq01:Inst:=Jq01 Xq01
theorem Eq01 (xq03:Tq03):EqF Tryz.prog 16 gives Tryz.f91 [Jq03 xq03] [] (Jq01 (Yq01 xq03)):=fun x y K=>by kernel_rfl
theorem Iq01_ok:InstOk Tryz.prog G.1 Iq01:=iok (gives:=gives) [] (okCons Iq03_ok okNil) 16 follows Tryz.func91 (by kernel_rfl) (fun x=>by kernel_rfl) (Eq01 Xq03)
abbrev Tq0d:Type:=ByteArray→ByteArray→(ByteArray→Prop)→Prop
def Yq0d (xq01:Tq01) (a0:ByteArray) (a1:ByteArray) (K:ByteArray→Prop):Prop :=
 xq01 a0 a1 (fun r2 =>
 K r2)
def Xq0d:Tq0d:=Yq0d Xq01
def Jq0d (X:Tq0d):Inst:=mkI 57 pL1 .nil pL0 .nil X
def Iq0d:Inst:=Jq0d Xq0d
theorem Eq0d (xq01:Tq01):EqF Tryz.prog 8 gives Tryz.f57 [Jq01 xq01] [] (Jq0d (Yq0d xq01)):=fun x y K=>by kernel_rfl
theorem Iq0d_ok:InstOk Tryz.prog G.1 Iq0d:=iok (gives:=gives) [] (okCons Iq01_ok okNil) 8 follows Tryz.func57 (by kernel_rfl) (fun x=>by kernel_rfl) (Eq0d Xq01)
abbrev Tq1x:Type:=ByteArray→((List Eng.V)→Bool→Bool→Prop)→Prop
def Lq1x_1 (xq0d:Tq0d) (K:(List Eng.V)→Bool→Bool→Prop):(Q10→Prop)→Q10→Prop:=fun k10 x11 =>
 (if decide (x11.1.2.2.2.1 < x11.1.2.2.1) then
 (if 0≤x11.1.2.2.2.1∧x11.1.2.2.2.1 < (↑(List.length x11.2.1.1):Int) then
 (Eng.asStr (Eng.getC x11.2.1.1 (Int.toNat x11.1.2.2.2.1) (0:Nat)) False fun t12 =>
 xq0d t12 (ByteArray.mk #[(13:UInt8)]) (fun r13 =>
 (if 0≤x11.1.2.2.2.1∧x11.1.2.2.2.1 < (↑(List.length x11.2.1.1):Int) then
 (if x11.2.1.2.2=false then
 (if Int.toNat x11.1.2.2.2.1 < List.length x11.2.1.1 then
 k10 (((),(),x11.1.2.2.1,w64 (x11.1.2.2.2.1+1),()),(List.set x11.2.1.1 (Int.toNat x11.1.2.2.2.1) (Eng.setE (List.getD x11.2.1.1 (Int.toNat x11.1.2.2.2.1) Eng.V.bad) (0:Nat) [Eng.V.c (Value.string r13)]),x11.2.1.2),())
 else
 False)
 else
 False)
 else
 False)))
 else
 False)
 else
 K x11.2.1.1 x11.2.1.2.1 x11.2.1.2.2)
def Lq1x_1p:Lp:=⟨3145740,[.trim 3145740],pT11,pH12,0⟩
def Lq1x_0 (xq0d:Tq0d) (K:(List Eng.V)→Bool→Bool→Prop):(Q13→Prop)→Q13→Prop:=fun k5 x6 =>
 (if decide (x6.1.2.2.2.1 < x6.1.2.2.1) then
 (if 0≤x6.1.2.2.2.1∧x6.1.2.2.2.1 < (↑(x6.1.2.1):Int) then
 (Eng.asStr (Eng.getC x6.2.1.1 ((0:Nat)+Int.toNat x6.1.2.2.2.1) (0:Nat)) False fun t7 =>
 xq0d t7 (ByteArray.mk #[(13:UInt8)]) (fun r8 =>
 (if 0≤x6.1.2.2.2.1∧x6.1.2.2.2.1 < (↑(x6.1.2.1):Int) then
 (if x6.2.1.2.2=false then
 (if (0:Nat)+Int.toNat x6.1.2.2.2.1 < List.length x6.2.1.1 then
 (lt (List.set x6.2.1.1 ((0:Nat)+Int.toNat x6.1.2.2.2.1) (Eng.setE (List.getD x6.2.1.1 ((0:Nat)+Int.toNat x6.1.2.2.2.1) Eng.V.bad) (0:Nat) [Eng.V.c (Value.string r8)])) fun v9 =>
 k5 (((),x6.1.2.1,x6.1.2.2.1,w64 (x6.1.2.2.2.1+1),()),(v9,x6.2.1.2),()))
 else
 False)
 else
 False)
 else
 False)))
 else
 False)
 else
 (if x6.2.1.2.1 then
 (if x6.2.1.2.2=false then
 (if Nat.ble x6.1.2.1 (List.length x6.2.1.1) then
 K (List.take x6.1.2.1 x6.2.1.1) true false
 else
 K (Eng.cutL x6.2.1.1 (0:Nat) x6.1.2.1) false true)
 else
 K (Eng.cutL x6.2.1.1 (0:Nat) x6.1.2.1) false true)
 else
 K (Eng.cutL x6.2.1.1 (0:Nat) x6.1.2.1) false true))
def Lq1x_0p:Lp:=⟨3145740,[.trim 3145740],pT14,pH12,0⟩
def Yq1x (xq1s:Tq1s) (xq0d:Tq0d) (a0:ByteArray) (K:(List Eng.V)→Bool→Bool→Prop):Prop :=
 xq1s a0 (ByteArray.mk #[(10:UInt8)]) (fun r1 r2 r3 =>
 (if 0≤w64 ((↑(List.length r1):Int) - 1)∧w64 ((↑(List.length r1):Int) - 1) < (↑(List.length r1):Int) then
 (Eng.asStr (Eng.getC r1 (Int.toNat (w64 ((↑(List.length r1):Int) - 1))) (0:Nat)) False fun t4 =>
 (if (ByteArray.toList t4 == ByteArray.toList (ByteArray.mk #[])) then
 (if 0≤w64 ((↑(List.length r1):Int) - 1)∧w64 ((↑(List.length r1):Int) - 1)≤(↑(List.length r1):Int) then
 (if (0 :Int)≤0∧0≤w64 ((↑(List.length r1):Int) - 1) then
 lp (Lq1x_0 xq0d K) (((),Int.toNat (w64 ((↑(List.length r1):Int) - 1)) - (0:Nat),(↑(Int.toNat (w64 ((↑(List.length r1):Int) - 1)) - (0:Nat)):Int),0,()),(r1,r2,r3),())
 else
 False)
 else
 False)
 else
 lp (Lq1x_1 xq0d K) (((),(),(↑(List.length r1):Int),0,()),(r1,r2,r3),())))
 else
 False))
def Xq1x:Tq1x:=Yq1x Xq1s Xq0d
def Jq1x (X:Tq1x):Inst:=mkI 24 pL0 .nil pL7 pH8 X
def Iq1x:Inst:=Jq1x Xq1x
theorem Eq1x (xq1s:Tq1s) (xq0d:Tq0d):EqF Tryz.prog 34 gives Tryz.f24 [Jq1s xq1s,Jq0d xq0d] [Lq1x_0p,Lq1x_1p] (Jq1x (Yq1x xq1s xq0d)):=fun x y K=>by kernel_rfl
theorem Iq1x_ok:InstOk Tryz.prog G.1 Iq1x:=iok (gives:=gives) [Lq1x_0p,Lq1x_1p] (okCons Iq1s_ok (okCons Iq0d_ok okNil)) 34 follows Tryz.func24 (by kernel_rfl) (fun x=>by kernel_rfl) (Eq1x Xq1s Xq0d)
abbrev Tq1z:Type:=ByteArray→((List Eng.V)→Bool→Bool→Prop)→Prop
def Lq1z_0 (K:(List Eng.V)→Bool→Bool→Prop):(Q15→Prop)→Q15→Prop:=fun k1 x2 =>
 (if x2.2.1.2 < ByteArray.size x2.2.1.1 then
 (if ((↑(Prod.fst (Go.Utf8.decode x2.2.1.1 x2.2.1.2)):Int) == 32) then
 (if decide (x2.1.2.2.1≥0) then
 (if 0≤(↑(x2.2.1.2):Int)∧(↑(x2.2.1.2):Int)≤(↑(ByteArray.size x2.1.1):Int) then
 (if 0≤x2.1.2.2.1∧x2.1.2.2.1≤(↑(x2.2.1.2):Int) then
 (if Eng.roomOk (List.length x2.2.2.1+List.length [Eng.V.c (Value.string (ByteArray.extract x2.1.1 (Int.toNat x2.1.2.2.1) (Int.toNat (↑(x2.2.1.2):Int))))]) (16:Nat) then
 k1 ((x2.1.1,(),(-1),(),()),(x2.2.1.1,x2.2.1.2+Prod.snd (Go.Utf8.decode x2.2.1.1 x2.2.1.2)),x2.2.2.1++[Eng.V.c (Value.string (ByteArray.extract x2.1.1 (Int.toNat x2.1.2.2.1) (Int.toNat (↑(x2.2.1.2):Int))))],())
 else
 False)
 else
 False)
 else
 False)
 else
 k1 ((x2.1.1,(),x2.1.2.2.1,(),()),(x2.2.1.1,x2.2.1.2+Prod.snd (Go.Utf8.decode x2.2.1.1 x2.2.1.2)),x2.2.2))
 else
 (if ((↑(Prod.fst (Go.Utf8.decode x2.2.1.1 x2.2.1.2)):Int) == 9) then
 (if decide (x2.1.2.2.1≥0) then
 (if 0≤(↑(x2.2.1.2):Int)∧(↑(x2.2.1.2):Int)≤(↑(ByteArray.size x2.1.1):Int) then
 (if 0≤x2.1.2.2.1∧x2.1.2.2.1≤(↑(x2.2.1.2):Int) then
 (if Eng.roomOk (List.length x2.2.2.1+List.length [Eng.V.c (Value.string (ByteArray.extract x2.1.1 (Int.toNat x2.1.2.2.1) (Int.toNat (↑(x2.2.1.2):Int))))]) (16:Nat) then
 k1 ((x2.1.1,(),(-1),(),()),(x2.2.1.1,x2.2.1.2+Prod.snd (Go.Utf8.decode x2.2.1.1 x2.2.1.2)),x2.2.2.1++[Eng.V.c (Value.string (ByteArray.extract x2.1.1 (Int.toNat x2.1.2.2.1) (Int.toNat (↑(x2.2.1.2):Int))))],())
 else
 False)
 else
 False)
 else
 False)
 else
 (if (!(↑(Prod.fst (Go.Utf8.decode x2.2.1.1 x2.2.1.2)):Int) == 9) then
 (if decide (x2.1.2.2.1 < 0) then
 k1 ((x2.1.1,(),(↑(x2.2.1.2):Int),(),()),(x2.2.1.1,x2.2.1.2+Prod.snd (Go.Utf8.decode x2.2.1.1 x2.2.1.2)),x2.2.2)
 else
 k1 ((x2.1.1,(),x2.1.2.2.1,(),()),(x2.2.1.1,x2.2.1.2+Prod.snd (Go.Utf8.decode x2.2.1.1 x2.2.1.2)),x2.2.2))
 else
 k1 ((x2.1.1,(),x2.1.2.2.1,(),()),(x2.2.1.1,x2.2.1.2+Prod.snd (Go.Utf8.decode x2.2.1.1 x2.2.1.2)),x2.2.2)))
 else
 (if (!(↑(Prod.fst (Go.Utf8.decode x2.2.1.1 x2.2.1.2)):Int) == 9) then
 (if decide (x2.1.2.2.1 < 0) then
 k1 ((x2.1.1,(),(↑(x2.2.1.2):Int),(),()),(x2.2.1.1,x2.2.1.2+Prod.snd (Go.Utf8.decode x2.2.1.1 x2.2.1.2)),x2.2.2)
 else
 k1 ((x2.1.1,(),x2.1.2.2.1,(),()),(x2.2.1.1,x2.2.1.2+Prod.snd (Go.Utf8.decode x2.2.1.1 x2.2.1.2)),x2.2.2))
 else
 k1 ((x2.1.1,(),x2.1.2.2.1,(),()),(x2.2.1.1,x2.2.1.2+Prod.snd (Go.Utf8.decode x2.2.1.1 x2.2.1.2)),x2.2.2))))
 else
 K x2.2.2.1 true false)
def Lq1z_0p:Lp:=⟨525,[.trim 525,.fat 2 1 736,.trim 525],pT16,pH17,0⟩
def Yq1z (a0:ByteArray) (K:(List Eng.V)→Bool→Bool→Prop):Prop :=
 (if (↑(ByteArray.size a0+(1:Nat)):Int) > 9223372036854775807 then
 False
 else
 lp (Lq1z_0 K) ((a0,(),(-1),(),()),(a0++ByteArray.mk #[(32:UInt8)],(0:Nat)),[],()))
def Xq1z:Tq1z:=Yq1z
def Jq1z (X:Tq1z):Inst:=mkI 49 pL0 .nil pL7 pH8 X
def Iq1z:Inst:=Jq1z Xq1z
theorem Eq1z:EqF Tryz.prog 42 gives Tryz.f49 [] [Lq1z_0p] (Jq1z (Yq1z)):=fun x y K=>by kernel_rfl
theorem Iq1z_ok:InstOk Tryz.prog G.1 Iq1z:=iok (gives:=gives) [Lq1z_0p] okNil 42 follows Tryz.func49 (by kernel_rfl) (fun x=>by kernel_rfl) (Eq1z)
abbrev Tq2f:Type:=Int→(Int→Prop)→Prop
def Yq2f (a0:Int) (K:Int→Prop):Prop :=
 (if decide (a0 < 0) then
 K (wu64 (0 - wu64 a0))
 else
 K (wu64 a0))
def Xq2f:Tq2f:=Yq2f
def Jq2f (X:Tq2f):Inst:=mkI 132 pL2 .nil pL18 .nil X
def Iq2f:Inst:=Jq2f Xq2f
theorem Eq2f:EqF Tryz.prog 10 gives Tryz.f132 [] [] (Jq2f (Yq2f)):=fun x y K=>by kernel_rfl
theorem Iq2f_ok:InstOk Tryz.prog G.1 Iq2f:=iok (gives:=gives) [] okNil 10 follows Tryz.func132 (by kernel_rfl) (fun x=>by kernel_rfl) (Eq2f)
abbrev Tq1c:Type:=Int→Int→(Int→Int→Prop)→Prop
def Yq1c (a0:Int) (a1:Int) (K:Int→Int→Prop):Prop :=
 (lt (wu64 (wu64 (↑(BitVec.toNat (BitVec.ofInt (64:Nat) a0 &&& BitVec.ofInt (64:Nat) 4294967295)):Int) * wu64 (↑(BitVec.toNat (BitVec.ofInt (64:Nat) a1 &&& BitVec.ofInt (64:Nat) 4294967295)):Int))) fun v2 =>
 (lt (wu64 (Int.fdiv a0 4294967296 * wu64 (↑(BitVec.toNat (BitVec.ofInt (64:Nat) a1 &&& BitVec.ofInt (64:Nat) 4294967295)):Int))) fun v3 =>
 (lt (wu64 (↑(BitVec.toNat (BitVec.ofInt (64:Nat) (wu64 (v3+Int.fdiv v2 4294967296)) &&& BitVec.ofInt (64:Nat) 4294967295)):Int)) fun v4 =>
 (lt (Int.fdiv (wu64 (v3+Int.fdiv v2 4294967296)) 4294967296) fun v5 =>
 (lt (wu64 (wu64 (↑(BitVec.toNat (BitVec.ofInt (64:Nat) a0 &&& BitVec.ofInt (64:Nat) 4294967295)):Int) * Int.fdiv a1 4294967296)) fun v6 =>
 (lt (wu64 (Int.fdiv a0 4294967296 * Int.fdiv a1 4294967296)) fun v7 =>
 (lt (wu64 (wu64 (v7+v5)+Int.fdiv (wu64 (v4+v6)) 4294967296)) fun v8 =>
 K v8 (wu64 (a0 * a1)))))))))
def Xq1c:Tq1c:=Yq1c
def Jq1c (X:Tq1c):Inst:=mkI 131 pL19 .nil pL19 .nil X
def Iq1c:Inst:=Jq1c Xq1c
theorem Eq1c:EqF Tryz.prog 51 gives Tryz.f131 [] [] (Jq1c (Yq1c)):=fun x y K=>by kernel_rfl
theorem Iq1c_ok:InstOk Tryz.prog G.1 Iq1c:=iok (gives:=gives) [] okNil 51 follows Tryz.func131 (by kernel_rfl) (fun x=>by kernel_rfl) (Eq1c)
abbrev Tq2p:Type:=Int→Int→(Int→Bool→Prop)→Prop
def Yq2p (xq2f:Tq2f) (xq1c:Tq1c) (a0:Int) (a1:Int) (K:Int→Bool→Prop):Prop :=
 xq2f a0 (fun r2 =>
 xq2f a1 (fun r3 =>
 xq1c r2 r3 (fun r4 r5 =>
 (if (!decide (a0 < 0) == decide (a1 < 0)) then
 (if (r4 != 0) then
 K 0 false
 else
 (if decide (r5 > 9223372036854775808) then
 K 0 false
 else
 K (w64 (a0 * a1)) true))
 else
 (if (r4 != 0) then
 K 0 false
 else
 (if decide (r5 > 9223372036854775807) then
 K 0 false
 else
 K (w64 (a0 * a1)) true))))))
def Xq2p:Tq2p:=Yq2p Xq2f Xq1c
def Jq2p (X:Tq2p):Inst:=mkI 109 pL20 .nil pL21 .nil X
def Iq2p:Inst:=Jq2p Xq2p
theorem Eq2p (xq2f:Tq2f) (xq1c:Tq1c):EqF Tryz.prog 34 gives Tryz.f109 [Jq2f xq2f,Jq1c xq1c] [] (Jq2p (Yq2p xq2f xq1c)):=fun x y K=>by kernel_rfl
theorem Iq2p_ok:InstOk Tryz.prog G.1 Iq2p:=iok (gives:=gives) [] (okCons Iq2f_ok (okCons Iq1c_ok okNil)) 34 follows Tryz.func109 (by kernel_rfl) (fun x=>by kernel_rfl) (Eq2p Xq2f Xq1c)
abbrev Tq2s:Type:=Int→Int→(Int→Bool→Prop)→Prop
def Yq2s (a0:Int) (a1:Int) (K:Int→Bool→Prop):Prop :=
 (lt (!decide (w64 (a0+a1) > a0) == decide (a1 > 0)) fun v2 =>
 (if v2 then
 (if (a1 != 0) then
 K 0 false
 else
 K (w64 (a0+a1)) true)
 else
 K (w64 (a0+a1)) true))
def Xq2s:Tq2s:=Yq2s
def Jq2s (X:Tq2s):Inst:=mkI 68 pL20 .nil pL21 .nil X
def Iq2s:Inst:=Jq2s Xq2s
theorem Eq2s:EqF Tryz.prog 21 gives Tryz.f68 [] [] (Jq2s (Yq2s)):=fun x y K=>by kernel_rfl
theorem Iq2s_ok:InstOk Tryz.prog G.1 Iq2s:=iok (gives:=gives) [] okNil 21 follows Tryz.func68 (by kernel_rfl) (fun x=>by kernel_rfl) (Eq2s)
abbrev Tq1w:Type:=ByteArray→(Int→Bool→Prop)→Prop
def Lq1w_0 (xq2p:Tq2p) (xq2s:Tq2s) (K:Int→Bool→Prop):(Q22→Prop)→Q22→Prop:=fun k1 x2 =>
 (if decide (x2.1.2.2.2.2.2.1 < x2.1.2.2.2.2.1) then
 (if 0≤x2.1.2.2.2.2.2.1∧x2.1.2.2.2.2.2.1 < (↑(List.length x2.2.1):Int) then
 (Eng.asInt IntKind.u8 (Eng.getC x2.2.1 (Int.toNat x2.1.2.2.2.2.2.1) (0:Nat)) False fun n3 =>
 xq2p x2.1.2.1 10 (fun r4 r5 =>
 xq2s r4 (w64 (w64 n3 - 48)) (fun r6 r7 =>
 (if decide (n3 < 48) then
 K 0 false
 else
 (if decide (n3 > 57) then
 K 0 false
 else
 (if (!r5) then
 K 0 false
 else
 (if (!r7) then
 K 0 false
 else
 k1 ((x2.1.1,r6,x2.1.2.2.1,(),x2.1.2.2.2.2.1,w64 (x2.1.2.2.2.2.2.1+1),()),x2.2))))))))
 else
 False)
 else
 K x2.1.2.1 (decide ((↑(ByteArray.size x2.1.1):Int) > 0)))
def Lq1w_0p:Lp:=⟨14349,[.trim 14349],pT23,pH24,0⟩
def Yq1w (xq2p:Tq2p) (xq2s:Tq2s) (a0:ByteArray) (K:Int→Bool→Prop):Prop :=
 lp (Lq1w_0 xq2p xq2s K) ((a0,0,false,(),(↑(List.length (Eng.bytesV a0)):Int),0,()),Eng.bytesV a0,())
def Xq1w:Tq1w:=Yq1w Xq2p Xq2s
def Jq1w (X:Tq1w):Inst:=mkI 76 pL0 .nil pL21 .nil X
def Iq1w:Inst:=Jq1w Xq1w
theorem Eq1w (xq2p:Tq2p) (xq2s:Tq2s):EqF Tryz.prog 50 gives Tryz.f76 [Jq2p xq2p,Jq2s xq2s] [Lq1w_0p] (Jq1w (Yq1w xq2p xq2s)):=fun x y K=>by kernel_rfl
theorem Iq1w_ok:InstOk Tryz.prog G.1 Iq1w:=iok (gives:=gives) [Lq1w_0p] (okCons Iq2p_ok (okCons Iq2s_ok okNil)) 50 follows Tryz.func76 (by kernel_rfl) (fun x=>by kernel_rfl) (Eq1w Xq2p Xq2s)
abbrev Tq1v:Type:=ByteArray→ByteArray→Int→(Q25→(List Eng.V)→Bool→Bool→(List Eng.V)→Bool→Bool→Prop)→Prop
def Lq1v_0 (xq1w:Tq1w) (K:Q25→(List Eng.V)→Bool→Bool→(List Eng.V)→Bool→Bool→Prop):(Q26→Prop)→Q26→Prop:=fun k6 x7 =>
 (if decide (x7.1.2.2.2.2.2.1 < x7.1.2.2.2.2.1) then
 (if 0≤x7.1.2.2.2.2.2.1∧x7.1.2.2.2.2.2.1 < (↑(List.length x7.2.2.2.1.1):Int) then
 (Eng.asStr (Eng.getC x7.2.2.2.1.1 (Int.toNat x7.1.2.2.2.2.2.1) (0:Nat)) False fun t8 =>
 xq1w t8 (fun r9 r10 =>
 (if Eng.roomOk (List.length x7.2.2.2.2.1+List.length [Eng.V.c (Value.int IntKind.i64 r9)]) (8:Nat) then
 (if x7.2.2.1.2.2.2.1 then
 k6 ((x7.1.1,(),(),(),x7.1.2.2.2.2.1,w64 (x7.1.2.2.2.2.2.1+1),()),(x7.2.1.1,(),(),x7.2.1.2.2.2),(x7.2.2.1.1,(),(),r10,()),x7.2.2.2.1,x7.2.2.2.2.1++[Eng.V.c (Value.int IntKind.i64 r9)],())
 else
 k6 ((x7.1.1,(),(),(),x7.1.2.2.2.2.1,w64 (x7.1.2.2.2.2.2.1+1),()),(x7.2.1.1,(),(),x7.2.1.2.2.2),(x7.2.2.1.1,(),(),false,()),x7.2.2.2.1,x7.2.2.2.2.1++[Eng.V.c (Value.int IntKind.i64 r9)],()))
 else
 False)))
 else
 False)
 else
 (if x7.2.2.1.2.2.2.1 then
 (if (!(↑(List.length x7.2.2.2.1.1):Int) == x7.1.1) then
 K (x7.2.2.1.1,(),(),(↑(List.length x7.2.2.2.1.1):Int) == x7.1.1,()) [] true true x7.2.2.2.2.1 true false
 else
 K (x7.2.2.1.1,(),(),(↑(List.length x7.2.2.2.1.1):Int) == x7.1.1,()) x7.2.2.2.1.1 x7.2.2.2.1.2.1 x7.2.2.2.1.2.2 x7.2.2.2.2.1 true false)
 else
 K (x7.2.2.1.1,(),(),false,()) [] true true x7.2.2.2.2.1 true false))
def Lq1v_0p:Lp:=⟨917700,[.trim 917700,.trim 917700,.fatC 176 2 1 1280,.trim 917700],pT27,pH28,0⟩
def Yq1v (xq1z:Tq1z) (xq1w:Tq1w) (a0:ByteArray) (a1:ByteArray) (a2:Int) (K:Q25→(List Eng.V)→Bool→Bool→(List Eng.V)→Bool→Bool→Prop):Prop :=
 xq1z a1 (fun r3 r4 r5 =>
 lp (Lq1v_0 xq1w K) ((a2,(),(),(),(↑(List.length r3):Int),0,()),(ByteArray.mk #[],(),(),false,()),(a0,(),(),true,()),(r3,r4,r5),[],()))
def Xq1v:Tq1v:=Yq1v Xq1z Xq1w
def Jq1v (X:Tq1v):Inst:=mkI 85 pL29 .nil pL30 pH31 X
def Iq1v:Inst:=Jq1v Xq1v
theorem Eq1v (xq1z:Tq1z) (xq1w:Tq1w):EqF Tryz.prog 56 gives Tryz.f85 [Jq1z xq1z,Jq1w xq1w] [Lq1v_0p] (Jq1v (Yq1v xq1z xq1w)):=fun x y K=>by kernel_rfl
theorem Iq1v_ok:InstOk Tryz.prog G.1 Iq1v:=iok (gives:=gives) [Lq1v_0p] (okCons Iq1z_ok (okCons Iq1w_ok okNil)) 56 follows Tryz.func85 (by kernel_rfl) (fun x=>by kernel_rfl) (Eq1v Xq1z Xq1w)
abbrev Tq27:Type:=Int→(Int→Bool→Prop)→Prop
def Yq27 (a0:Int) (K:Int→Bool→Prop):Prop :=
 (if decide (a0≥48) then
 (if decide (a0≤57) then
 K (wu32 (wi32 (a0 - 48))) true
 else
 (if decide (a0≥97) then
 (if decide (a0≤102) then
 (lt (wu32 (wu32 (wi32 (a0 - 97))+10)) fun v1 =>
 K v1 true)
 else
 (if decide (a0≥65) then
 (if decide (a0≤70) then
 (lt (wu32 (wu32 (wi32 (a0 - 65))+10)) fun v2 =>
 K v2 true)
 else
 K 0 false)
 else
 K 0 false))
 else
 (if decide (a0≥65) then
 (if decide (a0≤70) then
 (lt (wu32 (wu32 (wi32 (a0 - 65))+10)) fun v3 =>
 K v3 true)
 else
 K 0 false)
 else
 K 0 false)))
 else
 (if decide (a0≥97) then
 (if decide (a0≤102) then
 (lt (wu32 (wu32 (wi32 (a0 - 97))+10)) fun v4 =>
 K v4 true)
 else
 (if decide (a0≥65) then
 (if decide (a0≤70) then
 (lt (wu32 (wu32 (wi32 (a0 - 65))+10)) fun v5 =>
 K v5 true)
 else
 K 0 false)
 else
 K 0 false))
 else
 (if decide (a0≥65) then
 (if decide (a0≤70) then
 (lt (wu32 (wu32 (wi32 (a0 - 65))+10)) fun v6 =>
 K v6 true)
 else
 K 0 false)
 else
 K 0 false)))
def Xq27:Tq27:=Yq27
def Jq27 (X:Tq27):Inst:=mkI 89 pL32 .nil pL33 .nil X
def Iq27:Inst:=Jq27 Xq27
theorem Eq27:EqF Tryz.prog 36 gives Tryz.f89 [] [] (Jq27 (Yq27)):=fun x y K=>by kernel_rfl
theorem Iq27_ok:InstOk Tryz.prog G.1 Iq27:=iok (gives:=gives) [] okNil 36 follows Tryz.func89 (by kernel_rfl) (fun x=>by kernel_rfl) (Eq27)
abbrev Tq2i:Type:=ByteArray→(Int→Bool→Prop)→Prop
def Lq2i_0 (xq27:Tq27) (K:Int→Bool→Prop):(Q34→Prop)→Q34→Prop:=fun k1 x2 =>
 (if x2.2.1.2 < ByteArray.size x2.2.1.1 then
 xq27 (↑(Prod.fst (Go.Utf8.decode x2.2.1.1 x2.2.1.2)):Int) (fun r3 r4 =>
 (if (!r4) then
 K 0 false
 else
 (lt (wu32 (wu32 (x2.1.1 * 16)+r3)) fun v5 =>
 k1 ((v5,x2.1.2.1,(),()),(x2.2.1.1,x2.2.1.2+Prod.snd (Go.Utf8.decode x2.2.1.1 x2.2.1.2)),()))))
 else
 K x2.1.1 true)
def Lq2i_0p:Lp:=⟨65548,[.trim 65548],pT35,pH36,0⟩
def Yq2i (xq27:Tq27) (a0:ByteArray) (K:Int→Bool→Prop):Prop :=
 (if (ByteArray.toList a0 == ByteArray.toList (ByteArray.mk #[])) then
 K 0 false
 else
 (if decide ((↑(ByteArray.size a0):Int) > 8) then
 K 0 false
 else
 lp (Lq2i_0 xq27 K) ((0,false,(),()),(a0,(0:Nat)),())))
def Xq2i:Tq2i:=Yq2i Xq27
def Jq2i (X:Tq2i):Inst:=mkI 55 pL0 .nil pL33 .nil X
def Iq2i:Inst:=Jq2i Xq2i
theorem Eq2i (xq27:Tq27):EqF Tryz.prog 32 gives Tryz.f55 [Jq27 xq27] [Lq2i_0p] (Jq2i (Yq2i xq27)):=fun x y K=>by kernel_rfl
theorem Iq2i_ok:InstOk Tryz.prog G.1 Iq2i:=iok (gives:=gives) [Lq2i_0p] (okCons Iq27_ok okNil) 32 follows Tryz.func55 (by kernel_rfl) (fun x=>by kernel_rfl) (Eq2i Xq27)
abbrev Tq2l:Type:=ByteArray→(Q37→Bool→Prop)→Prop
def Lq2l_0 (xq2i:Tq2i) (K:Q37→Bool→Prop):(Q38→Prop)→Q38→Prop:=fun k4 x5 =>
 (if decide (x5.1.2.2.2.2.1 < x5.1.2.2.2.1) then
 (if 0≤x5.1.2.2.2.2.1∧x5.1.2.2.2.2.1 < (↑(List.length x5.2.2.1.1):Int) then
 (Eng.asStr (Eng.getC x5.2.2.1.1 (Int.toNat x5.1.2.2.2.2.1) (0:Nat)) False fun t6 =>
 xq2i t6 (fun r7 r8 =>
 (if 0≤x5.1.2.2.2.2.1∧x5.1.2.2.2.2.1 < 5 then
 (if (0:Nat) < List.length x5.2.1 then
 (if (0:Nat)+Int.toNat x5.1.2.2.2.2.1 * (1:Nat)+List.length [Eng.V.c (Value.int IntKind.u32 r7)]≤(5:Nat) then
 (lt (List.set x5.2.1 (0:Nat) (Eng.setE (List.getD x5.2.1 (0:Nat) Eng.V.bad) ((0:Nat)+Int.toNat x5.1.2.2.2.2.1 * (1:Nat)) [Eng.V.c (Value.int IntKind.u32 r7)])) fun v9 =>
 (if (!r8) then
 (if (0:Nat) < List.length v9 then
 (lt (List.set v9 (0:Nat) (Eng.setE (List.getD v9 (0:Nat) Eng.V.bad) (0:Nat) [Eng.V.c (Value.int IntKind.u32 0),Eng.V.c (Value.int IntKind.u32 0),Eng.V.c (Value.int IntKind.u32 0),Eng.V.c (Value.int IntKind.u32 0),Eng.V.c (Value.int IntKind.u32 0)])) fun v10 =>
 (Eng.asInt IntKind.u32 (Eng.getC v10 (0:Nat) (0:Nat)) False fun n11 =>
 (Eng.asInt IntKind.u32 (Eng.getC v10 (0:Nat) (1:Nat)) False fun n12 =>
 (Eng.asInt IntKind.u32 (Eng.getC v10 (0:Nat) (2:Nat)) False fun n13 =>
 (Eng.asInt IntKind.u32 (Eng.getC v10 (0:Nat) (3:Nat)) False fun n14 =>
 (Eng.asInt IntKind.u32 (Eng.getC v10 (0:Nat) (4:Nat)) False fun n15 =>
 K (n11,n12,n13,n14,n15,()) false))))))
 else
 False)
 else
 k4 (((),r8,(),x5.1.2.2.2.1,w64 (x5.1.2.2.2.2.1+1),()),v9,x5.2.2)))
 else
 False)
 else
 False)
 else
 False)))
 else
 False)
 else
 (Eng.asInt IntKind.u32 (Eng.getC x5.2.1 (0:Nat) (0:Nat)) False fun n16 =>
 (Eng.asInt IntKind.u32 (Eng.getC x5.2.1 (0:Nat) (1:Nat)) False fun n17 =>
 (Eng.asInt IntKind.u32 (Eng.getC x5.2.1 (0:Nat) (2:Nat)) False fun n18 =>
 (Eng.asInt IntKind.u32 (Eng.getC x5.2.1 (0:Nat) (3:Nat)) False fun n19 =>
 (Eng.asInt IntKind.u32 (Eng.getC x5.2.1 (0:Nat) (4:Nat)) False fun n20 =>
 (if (0:Nat) < List.length x5.2.1 then
 (lt (List.set x5.2.1 (0:Nat) (Eng.setE (List.getD x5.2.1 (0:Nat) Eng.V.bad) (0:Nat) [Eng.V.c (Value.int IntKind.u32 n16),Eng.V.c (Value.int IntKind.u32 n17),Eng.V.c (Value.int IntKind.u32 n18),Eng.V.c (Value.int IntKind.u32 n19),Eng.V.c (Value.int IntKind.u32 n20)])) fun v21 =>
 (Eng.asInt IntKind.u32 (Eng.getC v21 (0:Nat) (0:Nat)) False fun n22 =>
 (Eng.asInt IntKind.u32 (Eng.getC v21 (0:Nat) (1:Nat)) False fun n23 =>
 (Eng.asInt IntKind.u32 (Eng.getC v21 (0:Nat) (2:Nat)) False fun n24 =>
 (Eng.asInt IntKind.u32 (Eng.getC v21 (0:Nat) (3:Nat)) False fun n25 =>
 (Eng.asInt IntKind.u32 (Eng.getC v21 (0:Nat) (4:Nat)) False fun n26 =>
 K (n22,n23,n24,n25,n26,()) true))))))
 else
 False)))))))
def Lq2l_0p:Lp:=⟨57356,[.trim 57356],pT39,pH40,0⟩
def Yq2l (xq1z:Tq1z) (xq2i:Tq2i) (a0:ByteArray) (K:Q37→Bool→Prop):Prop :=
 xq1z a0 (fun r1 r2 r3 =>
 (if ((↑(List.length r1):Int) != 5) then
 K (0,0,0,0,0,()) false
 else
 lp (Lq2l_0 xq2i K) (((),false,(),(↑(List.length r1):Int),0,()),[Eng.V.agg [Eng.V.c (Value.int IntKind.u32 0),Eng.V.c (Value.int IntKind.u32 0),Eng.V.c (Value.int IntKind.u32 0),Eng.V.c (Value.int IntKind.u32 0),Eng.V.c (Value.int IntKind.u32 0)]],(r1,r2,r3),())))
def Xq2l:Tq2l:=Yq2l Xq1z Xq2i
def Jq2l (X:Tq2l):Inst:=mkI 23 pL0 .nil pL41 .nil X
def Iq2l:Inst:=Jq2l Xq2l
theorem Eq2l (xq1z:Tq1z) (xq2i:Tq2i):EqF Tryz.prog 32 gives Tryz.f23 [Jq1z xq1z,Jq2i xq2i] [Lq2l_0p] (Jq2l (Yq2l xq1z xq2i)):=fun x y K=>by kernel_rfl
theorem Iq2l_ok:InstOk Tryz.prog G.1 Iq2l:=iok (gives:=gives) [Lq2l_0p] (okCons Iq1z_ok (okCons Iq2i_ok okNil)) 32 follows Tryz.func23 (by kernel_rfl) (fun x=>by kernel_rfl) (Eq2l Xq1z Xq2i)
abbrev Tq02:Type:=ByteArray→ByteArray→(Bool→Prop)→Prop
def Yq02 (a0:ByteArray) (a1:ByteArray) (K:Bool→Prop):Prop :=
 (if decide ((↑(ByteArray.size a0):Int)≥(↑(ByteArray.size a1):Int)) then
 (if 0≤(↑(ByteArray.size a1):Int)∧(↑(ByteArray.size a1):Int)≤(↑(ByteArray.size a0):Int) then
 K (ByteArray.toList (ByteArray.extract a0 (0:Nat) (Int.toNat (↑(ByteArray.size a1):Int))) == ByteArray.toList a1)
 else
 False)
 else
 K false)
def Xq02:Tq02:=Yq02
def Jq02 (X:Tq02):Inst:=mkI 108 pL1 .nil pL9 .nil X
def Iq02:Inst:=Jq02 Xq02
theorem Eq02:EqF Tryz.prog 18 gives Tryz.f108 [] [] (Jq02 (Yq02)):=fun x y K=>by kernel_rfl
theorem Iq02_ok:InstOk Tryz.prog G.1 Iq02:=iok (gives:=gives) [] okNil 18 follows Tryz.func108 (by kernel_rfl) (fun x=>by kernel_rfl) (Eq02)
abbrev Tq0f:Type:=ByteArray→ByteArray→(Bool→Prop)→Prop
def Yq0f (xq02:Tq02) (a0:ByteArray) (a1:ByteArray) (K:Bool→Prop):Prop :=
 xq02 a0 a1 (fun r2 =>
 K r2)
def Xq0f:Tq0f:=Yq0f Xq02
def Jq0f (X:Tq0f):Inst:=mkI 74 pL1 .nil pL9 .nil X
def Iq0f:Inst:=Jq0f Xq0f
theorem Eq0f (xq02:Tq02):EqF Tryz.prog 8 gives Tryz.f74 [Jq02 xq02] [] (Jq0f (Yq0f xq02)):=fun x y K=>by kernel_rfl
theorem Iq0f_ok:InstOk Tryz.prog G.1 Iq0f:=iok (gives:=gives) [] (okCons Iq02_ok okNil) 8 follows Tryz.func74 (by kernel_rfl) (fun x=>by kernel_rfl) (Eq0f Xq02)
abbrev Tq07:Type:=ByteArray→ByteArray→(ByteArray→ByteArray→Bool→Prop)→Prop
def Yq07 (xq04:Tq04) (a0:ByteArray) (a1:ByteArray) (K:ByteArray→ByteArray→Bool→Prop):Prop :=
 xq04 a0 a1 (fun r2 =>
 (if decide (r2≥0) then
 (if 0≤r2∧r2≤(↑(ByteArray.size a0):Int) then
 (if (0 :Int)≤0∧0≤r2 then
 (if 0≤(↑(ByteArray.size a0):Int)∧(↑(ByteArray.size a0):Int)≤(↑(ByteArray.size a0):Int) then
 (if 0≤w64 (r2+(↑(ByteArray.size a1):Int))∧w64 (r2+(↑(ByteArray.size a1):Int))≤(↑(ByteArray.size a0):Int) then
 (lt (ByteArray.extract a0 (Int.toNat (w64 (r2+(↑(ByteArray.size a1):Int)))) (Int.toNat (↑(ByteArray.size a0):Int))) fun v3 =>
 K (ByteArray.extract a0 (0:Nat) (Int.toNat r2)) v3 true)
 else
 False)
 else
 False)
 else
 False)
 else
 False)
 else
 K a0 (ByteArray.mk #[]) false))
def Xq07:Tq07:=Yq07 Xq04
def Jq07 (X:Tq07):Inst:=mkI 81 pL1 .nil pL42 .nil X
def Iq07:Inst:=Jq07 Xq07
theorem Eq07 (xq04:Tq04):EqF Tryz.prog 23 gives Tryz.f81 [Jq04 xq04] [] (Jq07 (Yq07 xq04)):=fun x y K=>by kernel_rfl
theorem Iq07_ok:InstOk Tryz.prog G.1 Iq07:=iok (gives:=gives) [] (okCons Iq04_ok okNil) 23 follows Tryz.func81 (by kernel_rfl) (fun x=>by kernel_rfl) (Eq07 Xq04)
abbrev Tq20:Type:=ByteArray→ByteArray→(ByteArray→ByteArray→Bool→Prop)→Prop
def Yq20 (xq07:Tq07) (a0:ByteArray) (a1:ByteArray) (K:ByteArray→ByteArray→Bool→Prop):Prop :=
 xq07 a0 a1 (fun r2 r3 r4 =>
 K r2 r3 r4)
def Xq20:Tq20:=Yq20 Xq07
def Jq20 (X:Tq20):Inst:=mkI 48 pL1 .nil pL42 .nil X
def Iq20:Inst:=Jq20 Xq20
theorem Eq20 (xq07:Tq07):EqF Tryz.prog 13 gives Tryz.f48 [Jq07 xq07] [] (Jq20 (Yq20 xq07)):=fun x y K=>by kernel_rfl
theorem Iq20_ok:InstOk Tryz.prog G.1 Iq20:=iok (gives:=gives) [] (okCons Iq07_ok okNil) 13 follows Tryz.func48 (by kernel_rfl) (fun x=>by kernel_rfl) (Eq20 Xq07)
abbrev Tq29:Type:=ByteArray→(Q25→(List Eng.V)→Bool→Bool→(List Eng.V)→Bool→Bool→Prop)→Prop
def Yq29 (xq1z:Tq1z) (xq1v:Tq1v) (xq2l:Tq2l) (xq0f:Tq0f) (xq20:Tq20) (a0:ByteArray) (K:Q25→(List Eng.V)→Bool→Bool→(List Eng.V)→Bool→Bool→Prop):Prop :=
 xq1z a0 (fun r1 r2 r3 =>
 (if ((↑(List.length r1):Int) == 0) then
 K (ByteArray.mk #[(35:UInt8)],(),(),true,()) [] true true [] true true
 else
 (if (0≤if (↑(ByteArray.size a0):Int) < 2 then (↑(ByteArray.size a0):Int) else 2)∧(if (↑(ByteArray.size a0):Int) < 2 then (↑(ByteArray.size a0):Int) else 2)≤(↑(ByteArray.size a0):Int) then
 (if (0 :Int)≤0∧0≤if (↑(ByteArray.size a0):Int) < 2 then (↑(ByteArray.size a0):Int) else 2 then
 (if (ByteArray.toList (ByteArray.extract a0 (0:Nat) (Int.toNat (if (↑(ByteArray.size a0):Int) < 2 then (↑(ByteArray.size a0):Int) else 2))) == ByteArray.toList (ByteArray.mk #[(35:UInt8),(36:UInt8)])) then
 (if (ByteArray.toList (ByteArray.extract a0 (0:Nat) (Int.toNat (if (↑(ByteArray.size a0):Int) < 2 then (↑(ByteArray.size a0):Int) else 2))) == ByteArray.toList (ByteArray.mk #[(35:UInt8),(36:UInt8)])) then
 (if 0≤(↑(ByteArray.size a0):Int)∧(↑(ByteArray.size a0):Int)≤(↑(ByteArray.size a0):Int) then
 (if (0 :Int)≤2∧2≤(↑(ByteArray.size a0):Int) then
 xq1v (ByteArray.extract a0 (0:Nat) (Int.toNat (if (↑(ByteArray.size a0):Int) < 2 then (↑(ByteArray.size a0):Int) else 2))) (ByteArray.extract a0 (2:Nat) (Int.toNat (↑(ByteArray.size a0):Int))) 1 (fun r4 r5 r6 r7 r8 r9 r10 =>
 K (r4.1,(),(),r4.2.2.2) r5 r6 r7 r8 r9 r10)
 else
 False)
 else
 False)
 else
 (if (ByteArray.toList (ByteArray.extract a0 (0:Nat) (Int.toNat (if (↑(ByteArray.size a0):Int) < 2 then (↑(ByteArray.size a0):Int) else 2))) == ByteArray.toList (ByteArray.mk #[(35:UInt8),(104:UInt8)])) then
 (if 0≤(↑(ByteArray.size a0):Int)∧(↑(ByteArray.size a0):Int)≤(↑(ByteArray.size a0):Int) then
 (if (0 :Int)≤2∧2≤(↑(ByteArray.size a0):Int) then
 xq2l (ByteArray.extract a0 (2:Nat) (Int.toNat (↑(ByteArray.size a0):Int))) (fun r11 r12 =>
 K (ByteArray.extract a0 (0:Nat) (Int.toNat (if (↑(ByteArray.size a0):Int) < 2 then (↑(ByteArray.size a0):Int) else 2)),(),(),r12,()) [] true true [] true true)
 else
 False)
 else
 False)
 else
 (if (0 :Int)≤0∧0 < (↑(List.length r1):Int) then
 (Eng.asStr (Eng.getC r1 (0:Nat) (0:Nat)) False fun t13 =>
 xq0f t13 (ByteArray.mk #[(35:UInt8)]) (fun r14 =>
 (if r14 then
 K (ByteArray.mk #[(35:UInt8)],(),(),true,()) [] true true [] true true
 else
 xq20 a0 (ByteArray.mk #[(35:UInt8)]) (fun r15 r16 r17 =>
 xq1v (ByteArray.mk #[]) r15 2 (fun r18 r19 r20 r21 r22 r23 r24 =>
 K (r18.1,(),(),r18.2.2.2) r19 r20 r21 r22 r23 r24)))))
 else
 False)))
 else
 (if (ByteArray.toList (ByteArray.extract a0 (0:Nat) (Int.toNat (if (↑(ByteArray.size a0):Int) < 2 then (↑(ByteArray.size a0):Int) else 2))) == ByteArray.toList (ByteArray.mk #[(35:UInt8),(64:UInt8)])) then
 (if 0≤(↑(ByteArray.size a0):Int)∧(↑(ByteArray.size a0):Int)≤(↑(ByteArray.size a0):Int) then
 (if (0 :Int)≤2∧2≤(↑(ByteArray.size a0):Int) then
 xq1v (ByteArray.extract a0 (0:Nat) (Int.toNat (if (↑(ByteArray.size a0):Int) < 2 then (↑(ByteArray.size a0):Int) else 2))) (ByteArray.extract a0 (2:Nat) (Int.toNat (↑(ByteArray.size a0):Int))) 1 (fun r25 r26 r27 r28 r29 r30 r31 =>
 K (r25.1,(),(),r25.2.2.2) r26 r27 r28 r29 r30 r31)
 else
 False)
 else
 False)
 else
 (if (ByteArray.toList (ByteArray.extract a0 (0:Nat) (Int.toNat (if (↑(ByteArray.size a0):Int) < 2 then (↑(ByteArray.size a0):Int) else 2))) == ByteArray.toList (ByteArray.mk #[(35:UInt8),(104:UInt8)])) then
 (if 0≤(↑(ByteArray.size a0):Int)∧(↑(ByteArray.size a0):Int)≤(↑(ByteArray.size a0):Int) then
 (if (0 :Int)≤2∧2≤(↑(ByteArray.size a0):Int) then
 xq2l (ByteArray.extract a0 (2:Nat) (Int.toNat (↑(ByteArray.size a0):Int))) (fun r32 r33 =>
 K (ByteArray.extract a0 (0:Nat) (Int.toNat (if (↑(ByteArray.size a0):Int) < 2 then (↑(ByteArray.size a0):Int) else 2)),(),(),r33,()) [] true true [] true true)
 else
 False)
 else
 False)
 else
 (if (0 :Int)≤0∧0 < (↑(List.length r1):Int) then
 (Eng.asStr (Eng.getC r1 (0:Nat) (0:Nat)) False fun t34 =>
 xq0f t34 (ByteArray.mk #[(35:UInt8)]) (fun r35 =>
 (if r35 then
 K (ByteArray.mk #[(35:UInt8)],(),(),true,()) [] true true [] true true
 else
 xq20 a0 (ByteArray.mk #[(35:UInt8)]) (fun r36 r37 r38 =>
 xq1v (ByteArray.mk #[]) r36 2 (fun r39 r40 r41 r42 r43 r44 r45 =>
 K (r39.1,(),(),r39.2.2.2) r40 r41 r42 r43 r44 r45)))))
 else
 False))))
 else
 False)
 else
 False)))
def Xq29:Tq29:=Yq29 Xq1z Xq1v Xq2l Xq0f Xq20
def Jq29 (X:Tq29):Inst:=mkI 51 pL0 .nil pL30 pH31 X
def Iq29:Inst:=Jq29 Xq29
theorem Eq29 (xq1z:Tq1z) (xq1v:Tq1v) (xq2l:Tq2l) (xq0f:Tq0f) (xq20:Tq20):EqF Tryz.prog 53 gives Tryz.f51 [Jq1z xq1z,Jq1v xq1v,Jq2l xq2l,Jq0f xq0f,Jq20 xq20] [] (Jq29 (Yq29 xq1z xq1v xq2l xq0f xq20)):=fun x y K=>by kernel_rfl
theorem Iq29_ok:InstOk Tryz.prog G.1 Iq29:=iok (gives:=gives) [] (okCons Iq1z_ok (okCons Iq1v_ok (okCons Iq2l_ok (okCons Iq0f_ok (okCons Iq20_ok okNil))))) 53 follows Tryz.func51 (by kernel_rfl) (fun x=>by kernel_rfl) (Eq29 Xq1z Xq1v Xq2l Xq0f Xq20)
abbrev Tq28:Type:=ByteArray→((List Eng.V)→Bool→Bool→Prop)→Prop
def Lq28_0 (xq29:Tq29) (K:(List Eng.V)→Bool→Bool→Prop):(Q43→Prop)→Q43→Prop:=fun k4 x5 =>
 (if decide (x5.1.2.2.2.1 < x5.1.2.2.1) then
 (if 0≤x5.1.2.2.2.1∧x5.1.2.2.2.1 < (↑(List.length x5.2.1.1):Int) then
 (Eng.asStr (Eng.getC x5.2.1.1 (Int.toNat x5.1.2.2.2.1) (0:Nat)) False fun t6 =>
 xq29 t6 (fun r7 r8 r9 r10 r11 r12 r13 =>
 (if Eng.roomOk (List.length x5.2.2.1+List.length [Eng.V.agg [Eng.V.c (Value.string r7.1),Eng.V.sl (1:Nat) false r8,Eng.V.sl (1:Nat) false r11,Eng.V.c (Value.bool r7.2.2.2.1)]]) (72:Nat) then
 (lt (x5.2.2.1++[Eng.V.agg [Eng.V.c (Value.string r7.1),Eng.V.sl (1:Nat) false r8,Eng.V.sl (1:Nat) false r11,Eng.V.c (Value.bool r7.2.2.2.1)]]) fun v14 =>
 k4 (((),(),x5.1.2.2.1,w64 (x5.1.2.2.2.1+1),()),x5.2.1,v14,()))
 else
 False)))
 else
 False)
 else
 K x5.2.2.1 true false)
def Lq28_0p:Lp:=⟨452,[.trim 452,.fat 2 4 368,.trim 452],pT44,pH45,0⟩
def Yq28 (xq1x:Tq1x) (xq29:Tq29) (a0:ByteArray) (K:(List Eng.V)→Bool→Bool→Prop):Prop :=
 xq1x a0 (fun r1 r2 r3 =>
 lp (Lq28_0 xq29 K) (((),(),(↑(List.length r1):Int),0,()),(r1,r2,r3),[],()))
def Xq28:Tq28:=Yq28 Xq1x Xq29
def Jq28 (X:Tq28):Inst:=mkI 19 pL0 .nil pL7 pH46 X
def Iq28:Inst:=Jq28 Xq28
theorem Eq28 (xq1x:Tq1x) (xq29:Tq29):EqF Tryz.prog 19 gives Tryz.f19 [Jq1x xq1x,Jq29 xq29] [Lq28_0p] (Jq28 (Yq28 xq1x xq29)):=fun x y K=>by kernel_rfl
theorem Iq28_ok:InstOk Tryz.prog G.1 Iq28:=iok (gives:=gives) [Lq28_0p] (okCons Iq1x_ok (okCons Iq29_ok okNil)) 19 follows Tryz.func19 (by kernel_rfl) (fun x=>by kernel_rfl) (Eq28 Xq1x Xq29)
abbrev Tq2q:Type:=Int→Int→(Int→Bool→Prop)→Prop
def Yq2q (a0:Int) (a1:Int) (K:Int→Bool→Prop):Prop :=
 (lt (!decide (w64 (a0 - a1) < a0) == decide (a1 > 0)) fun v2 =>
 (if v2 then
 (if (a1 != 0) then
 K 0 false
 else
 K (w64 (a0 - a1)) true)
 else
 K (w64 (a0 - a1)) true))
def Xq2q:Tq2q:=Yq2q
def Jq2q (X:Tq2q):Inst:=mkI 53 pL20 .nil pL21 .nil X
def Iq2q:Inst:=Jq2q Xq2q
theorem Eq2q:EqF Tryz.prog 21 gives Tryz.f53 [] [] (Jq2q (Yq2q)):=fun x y K=>by kernel_rfl
theorem Iq2q_ok:InstOk Tryz.prog G.1 Iq2q:=iok (gives:=gives) [] okNil 21 follows Tryz.func53 (by kernel_rfl) (fun x=>by kernel_rfl) (Eq2q)
abbrev Tq2a:Type:=Int→(Int→Bool→Prop)→Prop
def Yq2a (xq2q:Tq2q) (a0:Int) (K:Int→Bool→Prop):Prop :=
 (if decide (a0 < 0) then
 K 0 false
 else
 xq2q a0 2208988800 (fun r1 r2 =>
 K r1 r2))
def Xq2a:Tq2a:=Yq2a Xq2q
def Jq2a (X:Tq2a):Inst:=mkI 21 pL2 .nil pL21 .nil X
def Iq2a:Inst:=Jq2a Xq2a
theorem Eq2a (xq2q:Tq2q):EqF Tryz.prog 10 gives Tryz.f21 [Jq2q xq2q] [] (Jq2a (Yq2a xq2q)):=fun x y K=>by kernel_rfl
theorem Iq2a_ok:InstOk Tryz.prog G.1 Iq2a:=iok (gives:=gives) [] (okCons Iq2q_ok okNil) 10 follows Tryz.func21 (by kernel_rfl) (fun x=>by kernel_rfl) (Eq2a Xq2q)
abbrev Tq2o:Type:=Int→Int→(Int→Int→Bool→Prop)→Prop
def Yq2o (a0:Int) (a1:Int) (K:Int→Int→Bool→Prop):Prop :=
 (if decide (a1 < 1) then
 K 0 0 false
 else
 (if a1=0 then
 False
 else
 (if a1=0 then
 False
 else
 (if decide (Int.tmod a0 a1 < 0) then
 (lt (w64 (w64 (Int.tdiv a0 a1) - 1)) fun v2 =>
 K v2 (w64 (Int.tmod a0 a1+a1)) true)
 else
 K (w64 (Int.tdiv a0 a1)) (Int.tmod a0 a1) true))))
def Xq2o:Tq2o:=Yq2o
def Jq2o (X:Tq2o):Inst:=mkI 86 pL20 .nil pL47 .nil X
def Iq2o:Inst:=Jq2o Xq2o
theorem Eq2o:EqF Tryz.prog 24 gives Tryz.f86 [] [] (Jq2o (Yq2o)):=fun x y K=>by kernel_rfl
theorem Iq2o_ok:InstOk Tryz.prog G.1 Iq2o:=iok (gives:=gives) [] okNil 24 follows Tryz.func86 (by kernel_rfl) (fun x=>by kernel_rfl) (Eq2o)
abbrev Tq00:Type:=(List Eng.V)→((List Eng.V)→Bool→Bool→Prop)→Prop
def Yq00 (a0:(List Eng.V)) (K:(List Eng.V)→Bool→Bool→Prop):Prop :=
 (if List.length a0=(0:Nat) then
 (
 K [] true true
 ∧
 (if Eng.roomOk ((0:Nat)+List.length a0) (24:Nat) then
 K ([]++a0) true false
 else
 False))
 else
 (if Eng.roomOk ((0:Nat)+List.length a0) (24:Nat) then
 K ([]++a0) true false
 else
 False))
def Xq00:Tq00:=Yq00
def Jq00 (X:Tq00):Inst:=mkI 114 pL48 .nil pL7 pH49 X
def Iq00:Inst:=Jq00 Xq00
theorem Eq00:EqF Tryz.prog 8 gives Tryz.f114 [] [] (Jq00 (Yq00)):=fun x y K=>by kernel_rfl
theorem Iq00_ok:InstOk Tryz.prog G.1 Iq00:=iok (gives:=gives) [] okNil 8 follows Tryz.func114 (by kernel_rfl) (fun x=>by kernel_rfl) (Eq00)
abbrev Tq2j:Type:=Int→(Int→Int→Int→Bool→Prop)→Prop
def Yq2j (xq2o:Tq2o) (a0:Int) (K:Int→Int→Int→Bool→Prop):Prop :=
 (if decide (a0 < (-719162)) then
 K 0 0 0 false
 else
 (if decide (a0 > 2932896) then
 K 0 0 0 false
 else
 xq2o (w64 (a0+719468)) 146097 (fun r1 r2 r3 =>
 (lt (w64 (r2 - w64 (Int.tdiv r2 1460))) fun v4 =>
 (lt (w64 (v4+w64 (Int.tdiv r2 36524))) fun v5 =>
 (lt (w64 (v5 - w64 (Int.tdiv r2 146096))) fun v6 =>
 (lt (w64 (365 * w64 (Int.tdiv v6 365))) fun v7 =>
 (lt (w64 (Int.tdiv (w64 (Int.tdiv v6 365)) 4)) fun v8 =>
 (lt (w64 (Int.tdiv (w64 (Int.tdiv v6 365)) 100)) fun v9 =>
 (lt (w64 (w64 (v7+v8) - v9)) fun v10 =>
 (lt (w64 (5 * w64 (r2 - v10))) fun v11 =>
 (lt (w64 (Int.tdiv (w64 (v11+2)) 153)) fun v12 =>
 (lt (w64 (w64 (153 * v12)+2)) fun v13 =>
 (lt (w64 (w64 (r2 - v10) - w64 (Int.tdiv v13 5))) fun v14 =>
 (if decide (w64 (v12+3) > 12) then
 (lt (w64 (w64 (v12+3) - 12)) fun v15 =>
 (lt (w64 (w64 (Int.tdiv v6 365)+1)) fun v16 =>
 (lt (w64 (w64 (400 * r1)+v16)) fun v17 =>
 K v17 v15 (w64 (v14+1)) true)))
 else
 (lt (w64 (w64 (400 * r1)+w64 (Int.tdiv v6 365))) fun v18 =>
 K v18 (w64 (v12+3)) (w64 (v14+1)) true))))))))))))))))
def Xq2j:Tq2j:=Yq2j Xq2o
def Jq2j (X:Tq2j):Inst:=mkI 78 pL2 .nil pL50 .nil X
def Iq2j:Inst:=Jq2j Xq2j
theorem Eq2j (xq2o:Tq2o):EqF Tryz.prog 69 gives Tryz.f78 [Jq2o xq2o] [] (Jq2j (Yq2j xq2o)):=fun x y K=>by kernel_rfl
theorem Iq2j_ok:InstOk Tryz.prog G.1 Iq2j:=iok (gives:=gives) [] (okCons Iq2o_ok okNil) 69 follows Tryz.func78 (by kernel_rfl) (fun x=>by kernel_rfl) (Eq2j Xq2o)
abbrev Tq2g:Type:=Int→(Bool→Prop)→Prop
def Yq2g (a0:Int) (K:Bool→Prop):Prop :=
 (if (Int.tmod a0 (4 :Int) == 0) then
 (if (Int.tmod a0 (100 :Int) != 0) then
 K true
 else
 K (Int.tmod a0 (400 :Int) == 0))
 else
 K false)
def Xq2g:Tq2g:=Yq2g
def Jq2g (X:Tq2g):Inst:=mkI 137 pL2 .nil pL9 .nil X
def Iq2g:Inst:=Jq2g Xq2g
theorem Eq2g:EqF Tryz.prog 16 gives Tryz.f137 [] [] (Jq2g (Yq2g)):=fun x y K=>by kernel_rfl
theorem Iq2g_ok:InstOk Tryz.prog G.1 Iq2g:=iok (gives:=gives) [] okNil 16 follows Tryz.func137 (by kernel_rfl) (fun x=>by kernel_rfl) (Eq2g)
abbrev Tq2k:Type:=Int→Int→(Int→Bool→Prop)→Prop
def Yq2k (xq2g:Tq2g) (a0:Int) (a1:Int) (K:Int→Bool→Prop):Prop :=
 (if decide (a0 < 1) then
 K 0 false
 else
 (if decide (a0 > 9999) then
 K 0 false
 else
 (if decide (a1 < 1) then
 K 0 false
 else
 (if decide (a1 > 12) then
 K 0 false
 else
 (if 0≤w64 (a1 - 1)∧w64 (a1 - 1) < 12 then
 (Eng.asInt IntKind.i64 ([Eng.V.c (Value.int IntKind.i64 31),Eng.V.c (Value.int IntKind.i64 28),Eng.V.c (Value.int IntKind.i64 31),Eng.V.c (Value.int IntKind.i64 30),Eng.V.c (Value.int IntKind.i64 31),Eng.V.c (Value.int IntKind.i64 30),Eng.V.c (Value.int IntKind.i64 31),Eng.V.c (Value.int IntKind.i64 31),Eng.V.c (Value.int IntKind.i64 30),Eng.V.c (Value.int IntKind.i64 31),Eng.V.c (Value.int IntKind.i64 30),Eng.V.c (Value.int IntKind.i64 31)][Int.toNat (w64 (a1 - 1)) * (1:Nat)]?) False fun n2 =>
 (if (a1 == 2) then
 xq2g a0 (fun r3 =>
 (if r3 then
 K (w64 (n2+1)) true
 else
 K n2 true))
 else
 K n2 true))
 else
 False)))))
def Xq2k:Tq2k:=Yq2k Xq2g
def Jq2k (X:Tq2k):Inst:=mkI 113 pL20 .nil pL21 .nil X
def Iq2k:Inst:=Jq2k Xq2k
theorem Eq2k (xq2g:Tq2g):EqF Tryz.prog 34 gives Tryz.f113 [Jq2g xq2g] [] (Jq2k (Yq2k xq2g)):=fun x y K=>by kernel_rfl
theorem Iq2k_ok:InstOk Tryz.prog G.1 Iq2k:=iok (gives:=gives) [] (okCons Iq2g_ok okNil) 34 follows Tryz.func113 (by kernel_rfl) (fun x=>by kernel_rfl) (Eq2k Xq2g)
abbrev Tq2n:Type:=Int→(Bool→Prop)→Prop
def Yq2n (xq2j:Tq2j) (xq2k:Tq2k) (a0:Int) (K:Bool→Prop):Prop :=
 xq2j a0 (fun r1 r2 r3 r4 =>
 xq2k r1 r2 (fun r5 r6 =>
 (if r4 then
 K (r3 == r5)
 else
 K false)))
def Xq2n:Tq2n:=Yq2n Xq2j Xq2k
def Jq2n (X:Tq2n):Inst:=mkI 115 pL2 .nil pL9 .nil X
def Iq2n:Inst:=Jq2n Xq2n
theorem Eq2n (xq2j:Tq2j) (xq2k:Tq2k):EqF Tryz.prog 28 gives Tryz.f115 [Jq2j xq2j,Jq2k xq2k] [] (Jq2n (Yq2n xq2j xq2k)):=fun x y K=>by kernel_rfl
theorem Iq2n_ok:InstOk Tryz.prog G.1 Iq2n:=iok (gives:=gives) [] (okCons Iq2j_ok (okCons Iq2k_ok okNil)) 28 follows Tryz.func115 (by kernel_rfl) (fun x=>by kernel_rfl) (Eq2n Xq2j Xq2k)
abbrev Tq24:Type:=Int→Q51→Int→(Int→Prop)→Prop
def Yq24 (xq2n:Tq2n) (a0:Int) (a1:Q51) (a2:Int) (K:Int→Prop):Prop :=
 (if decide (a0≥200) then
 K 8
 else
 (if decide (a1.1 < 730) then
 (if decide (a1.1 < 730) then
 K 9
 else
 xq2n a1.1 (fun r3 =>
 (if (!r3) then
 K 5
 else
 (if (a1.2.1 != 1) then
 (if (a1.2.1 != (-1)) then
 K 6
 else
 (if decide (a1.1≤a2) then
 K 4
 else
 K 0))
 else
 (if decide (a1.1≤a2) then
 K 4
 else
 K 0)))))
 else
 (if decide (a1.1≥2932896) then
 K 9
 else
 xq2n a1.1 (fun r4 =>
 (if (!r4) then
 K 5
 else
 (if (a1.2.1 != 1) then
 (if (a1.2.1 != (-1)) then
 K 6
 else
 (if decide (a1.1≤a2) then
 K 4
 else
 K 0))
 else
 (if decide (a1.1≤a2) then
 K 4
 else
 K 0)))))))
def Xq24:Tq24:=Yq24 Xq2n
def Jq24 (X:Tq24):Inst:=mkI 88 pL52 .nil pL2 .nil X
def Iq24:Inst:=Jq24 Xq24
theorem Eq24 (xq2n:Tq2n):EqF Tryz.prog 36 gives Tryz.f88 [Jq2n xq2n] [] (Jq24 (Yq24 xq2n)):=fun x y K=>by kernel_rfl
theorem Iq24_ok:InstOk Tryz.prog G.1 Iq24:=iok (gives:=gives) [] (okCons Iq2n_ok okNil) 36 follows Tryz.func88 (by kernel_rfl) (fun x=>by kernel_rfl) (Eq24 Xq2n)
abbrev Tq22:Type:=Q53→(Int→Int→Prop)→Prop
def Lq22_0 (xq24:Tq24) (K:Int→Int→Prop):(Q54→Prop)→Q54→Prop:=fun k1 x2 =>
 (if decide (x2.1.2.2.2.2.2.2.1 < x2.1.2.2.2.2.2.1) then
 (if 0≤x2.1.2.2.2.2.2.2.1∧x2.1.2.2.2.2.2.2.1 < (↑(List.length x2.1.2.2.2.2.1):Int) then
 (Eng.asInt IntKind.i64 (Eng.getC x2.1.2.2.2.2.1 (Int.toNat x2.1.2.2.2.2.2.2.1) (0:Nat)) False fun n3 =>
 (Eng.asInt IntKind.i64 (Eng.getC x2.1.2.2.2.2.1 (Int.toNat x2.1.2.2.2.2.2.2.1) (1:Nat)) False fun n4 =>
 (Eng.asBool (Eng.getC x2.1.2.2.2.2.1 (Int.toNat x2.1.2.2.2.2.2.2.1) (2:Nat)) False fun b5 =>
 xq24 x2.1.2.2.2.2.2.2.1 (n3,n4,b5,()) x2.1.2.2.2.1 (fun r6 =>
 (if (r6 != 0) then
 K x2.1.2.2.2.2.2.2.1 r6
 else
 k1 (((),x2.1.2.1,x2.1.2.2.1,n3,x2.1.2.2.2.2.1,x2.1.2.2.2.2.2.1,w64 (x2.1.2.2.2.2.2.2.1+1),()),x2.2))))))
 else
 False)
 else
 (if x2.2.1.2.1 then
 (lt (w64 (w64 (x2.1.2.2.2.1+1) * 86400)) fun v7 =>
 (if decide (x2.2.1.2.2.1 < if 63072000 > v7 then 63072000 else v7) then
 K (↑(List.length x2.2.1.1):Int) 9
 else
 (if decide (x2.2.1.2.2.1 > 253402300799) then
 K (↑(List.length x2.2.1.1):Int) 9
 else
 K (↑(List.length x2.2.1.1):Int) 0)))
 else
 (if decide (x2.2.1.2.2.1 < 0) then
 K (↑(List.length x2.2.1.1):Int) 9
 else
 (if decide (x2.2.1.2.2.1 > 0) then
 K (↑(List.length x2.2.1.1):Int) 9
 else
 K (↑(List.length x2.2.1.1):Int) 0))))
def Lq22_0p:Lp:=⟨14366,[.trim 14366],pT55,pH56,0⟩
def Yq22 (xq24:Tq24) (a0:Q53) (K:Int→Int→Prop):Prop :=
 lp (Lq22_0 xq24 K) (((),0,0,729,a0.1,(↑(List.length a0.1):Int),0,()),a0,())
def Xq22:Tq22:=Yq22 Xq24
def Jq22 (X:Tq22):Inst:=mkI 54 pL57 .nil pL20 .nil X
def Iq22:Inst:=Jq22 Xq22
theorem Eq22 (xq24:Tq24):EqF Tryz.prog 51 gives Tryz.f54 [Jq24 xq24] [Lq22_0p] (Jq22 (Yq22 xq24)):=fun x y K=>by kernel_rfl
theorem Iq22_ok:InstOk Tryz.prog G.1 Iq22:=iok (gives:=gives) [Lq22_0p] (okCons Iq24_ok okNil) 51 follows Tryz.func54 (by kernel_rfl) (fun x=>by kernel_rfl) (Eq22 Xq24)
abbrev Tq2h:Type:=Q53→Q51→(Q58→Int→(List Eng.V)→Bool→Bool→Prop)→Prop
def Yq2h (xq00:Tq00) (xq22:Tq22) (a0:Q53) (a1:Q51) (K:Q58→Int→(List Eng.V)→Bool→Bool→Prop):Prop :=
 (dup (
 xq00 a0.1 (fun r2 r3 r4 =>
 (if r3 then
 (if Eng.roomOk (List.length r2+List.length [Eng.V.agg [Eng.V.c (Value.int IntKind.i64 a1.1),Eng.V.c (Value.int IntKind.i64 a1.2.1),Eng.V.c (Value.bool a1.2.2.1)]]) (24:Nat) then
 (lt (r2++[Eng.V.agg [Eng.V.c (Value.int IntKind.i64 a1.1),Eng.V.c (Value.int IntKind.i64 a1.2.1),Eng.V.c (Value.bool a1.2.2.1)]]) fun v5 =>
 xq22 (v5,a0.2) (fun r6 r7 =>
 (if (r7 != 0) then
 (if 0≤(↑(List.length a0.1):Int)∧(↑(List.length a0.1):Int)=(↑(List.length a0.1):Int)∧(↑(List.length a0.1):Int)≤(↑(List.length v5):Int) then
 K ((),a0.2) r7 (List.take (Int.toNat (↑(List.length a0.1):Int)) v5) r3 r4
 else
 False)
 else
 K ((),a0.2) 0 v5 r3 r4)))
 else
 False)
 else
 False))))
def Xq2h:Tq2h:=Yq2h Xq00 Xq22
def Jq2h (X:Tq2h):Inst:=mkI 87 pL59 .nil pL60 pH49 X
def Iq2h:Inst:=Jq2h Xq2h
theorem Eq2h (xq00:Tq00) (xq22:Tq22):EqF Tryz.prog 37 gives Tryz.f87 [Jq00 xq00,Jq22 xq22] [] (Jq2h (Yq2h xq00 xq22)):=fun x y K=>by kernel_rfl
theorem Iq2h_ok:InstOk Tryz.prog G.1 Iq2h:=iok (gives:=gives) [] (okCons Iq00_ok (okCons Iq22_ok okNil)) 37 follows Tryz.func87 (by kernel_rfl) (fun x=>by kernel_rfl) (Eq2h Xq00 Xq22)
abbrev Tq1j:Type:=Int→Int→(List Eng.V)→Bool→Int→Int→Bool→Q61→(Int→Bool→Int→Int→Bool→(List Eng.V)→Bool→Bool→Q61→Prop)→Prop
def Yq1j (xq2a:Tq2a) (xq2o:Tq2o) (xq2h:Tq2h) (a0:Int) (a1:Int) (a2:(List Eng.V)) (a3:Bool) (a4:Int) (a5:Int) (a6:Bool) (a7:Q61) (K:Int→Bool→Int→Int→Bool→(List Eng.V)→Bool→Bool→Q61→Prop):Prop :=
 xq2a a0 (fun r8 r9 =>
 xq2o r8 86400 (fun r10 r11 r12 =>
 (if (!a6) then
 (if (r8 != 63072000) then
 K 9 a3 a4 a5 a6 a2 false true a7
 else
 (if (a1 != 10) then
 K 9 a3 a4 a5 a6 a2 false true a7
 else
 (if (!a6) then
 K 0 a3 a4 a1 true a2 false true a7
 else
 (if (r11 != 0) then
 K 5 a3 a4 a5 a6 a2 false true a7
 else
 (if (w64 (a1 - a5) != 1) then
 (if (w64 (a1 - a5) != (-1)) then
 K 6 a3 a4 a5 a6 a2 false true a7
 else
 xq2h (a2,a3,a4,()) (w64 (r10 - 1),w64 (a1 - a5),false,()) (fun r13 r14 r15 r16 r17 =>
 K r14 r13.2.1 r13.2.2.1 a1 a6 r15 r16 r17 a7))
 else
 xq2h (a2,a3,a4,()) (w64 (r10 - 1),w64 (a1 - a5),false,()) (fun r18 r19 r20 r21 r22 =>
 K r19 r18.2.1 r18.2.2.1 a1 a6 r20 r21 r22 a7))))))
 else
 (if (!a6) then
 K 0 a3 a4 a1 true a2 false true a7
 else
 (if (r11 != 0) then
 K 5 a3 a4 a5 a6 a2 false true a7
 else
 (if (w64 (a1 - a5) != 1) then
 (if (w64 (a1 - a5) != (-1)) then
 K 6 a3 a4 a5 a6 a2 false true a7
 else
 xq2h (a2,a3,a4,()) (w64 (r10 - 1),w64 (a1 - a5),false,()) (fun r23 r24 r25 r26 r27 =>
 K r24 r23.2.1 r23.2.2.1 a1 a6 r25 r26 r27 a7))
 else
 xq2h (a2,a3,a4,()) (w64 (r10 - 1),w64 (a1 - a5),false,()) (fun r28 r29 r30 r31 r32 =>
 K r29 r28.2.1 r28.2.2.1 a1 a6 r30 r31 r32 a7)))))))
def Xq1j:Tq1j:=Yq1j Xq2a Xq2o Xq2h
def Jq1j (X:Tq1j):Inst:=mkI 52 pL62 pH63 pL2 pH64 X
def Iq1j:Inst:=Jq1j Xq1j
theorem Eq1j (xq2a:Tq2a) (xq2o:Tq2o) (xq2h:Tq2h):EqF Tryz.prog 83 gives Tryz.f52 [Jq2a xq2a,Jq2o xq2o,Jq2h xq2h] [] (Jq1j (Yq1j xq2a xq2o xq2h)):=fun x y K=>by kernel_rfl
theorem Iq1j_ok:InstOk Tryz.prog G.1 Iq1j:=iok (gives:=gives) [] (okCons Iq2a_ok (okCons Iq2o_ok (okCons Iq2h_ok okNil))) 83 follows Tryz.func52 (by kernel_rfl) (fun x=>by kernel_rfl) (Eq1j Xq2a Xq2o Xq2h)
abbrev Tq1p:Type:=Int→Q65→(List Eng.V)→Bool→Int→Int→Bool→Q61→(Int→Bool→Int→Int→Bool→(List Eng.V)→Bool→Bool→Q61→Prop)→Prop
def Yq1p (xq1j:Tq1j) (a0:Int) (a1:Q65) (a2:(List Eng.V)) (a3:Bool) (a4:Int) (a5:Int) (a6:Bool) (a7:Q61) (K:Int→Bool→Int→Int→Bool→(List Eng.V)→Bool→Bool→Q61→Prop):Prop :=
 (if (!a1.2.2.2.1) then
 K 2 a3 a4 a5 a6 a2 false true a7
 else
 (if (ByteArray.toList a1.1 == ByteArray.toList (ByteArray.mk #[(35:UInt8),(36:UInt8)])) then
 (if (ByteArray.toList a1.1 == ByteArray.toList (ByteArray.mk #[(35:UInt8),(36:UInt8)])) then
 (Eng.asMpI IntKind.i64 (Eng.mpGet a1.1 a7) False fun n8 n9 =>
 (if decide (n8 > 0) then
 K 2 a3 a4 a5 a6 a2 false true a7
 else
 (if Option.isSome (Eng.mpGet a1.1 a7) then
 K 0 a3 a4 a5 a6 a2 false true (Eng.mpPut a1.1 (Eng.V.c (Value.int IntKind.i64 a0)) a7)
 else
 False)))
 else
 (if (ByteArray.toList a1.1 == ByteArray.toList (ByteArray.mk #[])) then
 (if (0 :Int)≤0∧0 < (↑(List.length a1.2.2.1):Int) then
 (Eng.asInt IntKind.i64 (Eng.getC a1.2.2.1 (0:Nat) (0:Nat)) False fun n10 =>
 (if (0 :Int)≤1∧1 < (↑(List.length a1.2.2.1):Int) then
 (Eng.asInt IntKind.i64 (Eng.getC a1.2.2.1 (1:Nat) (0:Nat)) False fun n11 =>
 xq1j n10 n11 a2 a3 a4 a5 a6 a7 (fun r12 r13 r14 r15 r16 r17 r18 r19 r20 =>
 K r12 r13 r14 r15 r16 r17 r18 r19 r20))
 else
 False))
 else
 False)
 else
 K 0 a3 a4 a5 a6 a2 false true a7))
 else
 (if (ByteArray.toList a1.1 == ByteArray.toList (ByteArray.mk #[(35:UInt8),(64:UInt8)])) then
 (if (ByteArray.toList a1.1 == ByteArray.toList (ByteArray.mk #[(35:UInt8),(64:UInt8)])) then
 (Eng.asMpI IntKind.i64 (Eng.mpGet a1.1 a7) False fun n21 n22 =>
 (if decide (n21 > 0) then
 K 2 a3 a4 a5 a6 a2 false true a7
 else
 (if Option.isSome (Eng.mpGet a1.1 a7) then
 K 0 a3 a4 a5 a6 a2 false true (Eng.mpPut a1.1 (Eng.V.c (Value.int IntKind.i64 a0)) a7)
 else
 False)))
 else
 (if (ByteArray.toList a1.1 == ByteArray.toList (ByteArray.mk #[])) then
 (if (0 :Int)≤0∧0 < (↑(List.length a1.2.2.1):Int) then
 (Eng.asInt IntKind.i64 (Eng.getC a1.2.2.1 (0:Nat) (0:Nat)) False fun n23 =>
 (if (0 :Int)≤1∧1 < (↑(List.length a1.2.2.1):Int) then
 (Eng.asInt IntKind.i64 (Eng.getC a1.2.2.1 (1:Nat) (0:Nat)) False fun n24 =>
 xq1j n23 n24 a2 a3 a4 a5 a6 a7 (fun r25 r26 r27 r28 r29 r30 r31 r32 r33 =>
 K r25 r26 r27 r28 r29 r30 r31 r32 r33))
 else
 False))
 else
 False)
 else
 K 0 a3 a4 a5 a6 a2 false true a7))
 else
 (if (ByteArray.toList a1.1 == ByteArray.toList (ByteArray.mk #[(35:UInt8),(104:UInt8)])) then
 (Eng.asMpI IntKind.i64 (Eng.mpGet a1.1 a7) False fun n34 n35 =>
 (if decide (n34 > 0) then
 K 2 a3 a4 a5 a6 a2 false true a7
 else
 (if Option.isSome (Eng.mpGet a1.1 a7) then
 K 0 a3 a4 a5 a6 a2 false true (Eng.mpPut a1.1 (Eng.V.c (Value.int IntKind.i64 a0)) a7)
 else
 False)))
 else
 (if (ByteArray.toList a1.1 == ByteArray.toList (ByteArray.mk #[])) then
 (if (0 :Int)≤0∧0 < (↑(List.length a1.2.2.1):Int) then
 (Eng.asInt IntKind.i64 (Eng.getC a1.2.2.1 (0:Nat) (0:Nat)) False fun n36 =>
 (if (0 :Int)≤1∧1 < (↑(List.length a1.2.2.1):Int) then
 (Eng.asInt IntKind.i64 (Eng.getC a1.2.2.1 (1:Nat) (0:Nat)) False fun n37 =>
 xq1j n36 n37 a2 a3 a4 a5 a6 a7 (fun r38 r39 r40 r41 r42 r43 r44 r45 r46 =>
 K r38 r39 r40 r41 r42 r43 r44 r45 r46))
 else
 False))
 else
 False)
 else
 K 0 a3 a4 a5 a6 a2 false true a7)))))
def Xq1p:Tq1p:=Yq1p Xq1j
def Jq1p (X:Tq1p):Inst:=mkI 20 pL66 pH63 pL2 pH64 X
def Iq1p:Inst:=Jq1p Xq1p
theorem Eq1p (xq1j:Tq1j):EqF Tryz.prog 43 gives Tryz.f20 [Jq1j xq1j] [] (Jq1p (Yq1p xq1j)):=fun x y K=>by kernel_rfl
theorem Iq1p_ok:InstOk Tryz.prog G.1 Iq1p:=iok (gives:=gives) [] (okCons Iq1j_ok okNil) 43 follows Tryz.func20 (by kernel_rfl) (fun x=>by kernel_rfl) (Eq1p Xq1j)
abbrev Tq1u:Type:=Int→Int→(Q58→Q67→(List Eng.V)→Bool→Bool→Prop)→Prop
def Yq1u (a0:Int) (a1:Int) (K:Q58→Q67→(List Eng.V)→Bool→Bool→Prop):Prop :=
 K ((),false,0,()) (a0,a1,()) [] true true
def Xq1u:Tq1u:=Yq1u
def Jq1u (X:Tq1u):Inst:=mkI 18 pL20 .nil pL68 pH49 X
def Iq1u:Inst:=Jq1u Xq1u
theorem Eq1u:EqF Tryz.prog 10 gives Tryz.f18 [] [] (Jq1u (Yq1u)):=fun x y K=>by kernel_rfl
theorem Iq1u_ok:InstOk Tryz.prog G.1 Iq1u:=iok (gives:=gives) [] okNil 10 follows Tryz.func18 (by kernel_rfl) (fun x=>by kernel_rfl) (Eq1u)
abbrev Tq21:Type:=Q53→(Bool→Prop)→Prop
def Yq21 (xq22:Tq22) (a0:Q53) (K:Bool→Prop):Prop :=
 xq22 a0 (fun r1 r2 =>
 K (r2 == 0))
def Xq21:Tq21:=Yq21 Xq22
def Jq21 (X:Tq21):Inst:=mkI 22 pL57 .nil pL9 .nil X
def Iq21:Inst:=Jq21 Xq21
theorem Eq21 (xq22:Tq22):EqF Tryz.prog 12 gives Tryz.f22 [Jq22 xq22] [] (Jq21 (Yq21 xq22)):=fun x y K=>by kernel_rfl
theorem Iq21_ok:InstOk Tryz.prog G.1 Iq21:=iok (gives:=gives) [] (okCons Iq22_ok okNil) 12 follows Tryz.func22 (by kernel_rfl) (fun x=>by kernel_rfl) (Eq21 Xq22)
abbrev Tq06:Type:=Int→((List Eng.V)→Bool→Bool→Prop)→Prop
def Yq06 (a0:Int) (K:(List Eng.V)→Bool→Bool→Prop):Prop :=
 (if decide (a0 < 0) then
 False
 else
 (if decide (w64 (a0 - 0) > 0) then
 (if 0≤w64 (a0 - 0)∧w64 (a0 - 0)≤4398046511104 then
 (if Eng.roomOk ((0:Nat)+List.length (List.replicate (Int.toNat (w64 (a0 - 0))) (Eng.ofVal (Value.int IntKind.u8 0)))) (1:Nat) then
 K [] true false
 else
 False)
 else
 False)
 else
 K [] true true))
def Xq06:Tq06:=Yq06
def Jq06 (X:Tq06):Inst:=mkI 122 pL69 .nil pL7 pH8 X
def Iq06:Inst:=Jq06 Xq06
theorem Eq06:EqF Tryz.prog 27 gives Tryz.f122 [] [] (Jq06 (Yq06)):=fun x y K=>by kernel_rfl
theorem Iq06_ok:InstOk Tryz.prog G.1 Iq06:=iok (gives:=gives) [] okNil 27 follows Tryz.func122 (by kernel_rfl) (fun x=>by kernel_rfl) (Eq06)
abbrev Tq05:Type:=(List Eng.V)→((List Eng.V)→Bool→Bool→Prop)→Prop
def Lq05_1 (K:(List Eng.V)→Bool→Bool→Prop) (k1:Q70→Prop):(Q71→Prop)→Q71→Prop:=fun k8 x9 =>
 (if decide (x9.1.2.2.2.2.1 < x9.1.2.2.2.1) then
 (if 0≤x9.1.2.2.2.2.1∧x9.1.2.2.2.2.1 < (↑(List.length x9.1.2.2.1):Int) then
 (Eng.asSl (1:Nat) (Eng.getC x9.1.2.2.1 (Int.toNat x9.1.2.2.2.2.1) (0:Nat)) False fun l10 l11 =>
 (if x9.2.1.2.1 then
 (if Eng.roomOk (List.length x9.2.1.1+List.length l11) (1:Nat) then
 k8 (((),(),x9.1.2.2.1,x9.1.2.2.2.1,w64 (x9.1.2.2.2.2.1+1),()),(x9.2.1.1++l11,x9.2.1.2),())
 else
 False)
 else
 False))
 else
 False)
 else
 K x9.2.1.1 x9.2.1.2.1 x9.2.1.2.2)
def Lq05_1p:Lp:=⟨234881092,[.trim 234881092],pT72,pH73,0⟩
def Lq05_0 (xq06:Tq06) (K:(List Eng.V)→Bool→Bool→Prop):(Q70→Prop)→Q70→Prop:=fun k1 x2 =>
 (if decide (x2.1.2.2.2.2.2.1 < x2.1.2.2.2.2.1) then
 (if 0≤x2.1.2.2.2.2.2.1∧x2.1.2.2.2.2.2.1 < (↑(List.length x2.1.2.2.2.1):Int) then
 (Eng.asSl (1:Nat) (Eng.getC x2.1.2.2.2.1 (Int.toNat x2.1.2.2.2.2.2.1) (0:Nat)) False fun l3 l4 =>
 (if decide (w64 (x2.1.2.2.1+(↑(List.length l4):Int)) < 0) then
 False
 else
 k1 ((x2.1.1,(),w64 (x2.1.2.2.1+(↑(List.length l4):Int)),x2.1.2.2.2.1,x2.1.2.2.2.2.1,w64 (x2.1.2.2.2.2.2.1+1),()),())))
 else
 False)
 else
 xq06 x2.1.2.2.1 (fun r5 r6 r7 =>
 lp (Lq05_1 K k1) (((),(),x2.1.1,(↑(List.length x2.1.1):Int),0,()),(r5,r6,r7),())))
def Lq05_0p:Lp:=⟨3597,[.trim 3597],pT74,.nil,0⟩
def Yq05 (xq06:Tq06) (a0:(List Eng.V)) (K:(List Eng.V)→Bool→Bool→Prop):Prop :=
 lp (Lq05_0 xq06 K) ((a0,(),0,a0,(↑(List.length a0):Int),0,()),())
def Xq05:Tq05:=Yq05 Xq06
def Jq05 (X:Tq05):Inst:=mkI 95 pL75 .nil pL7 pH8 X
def Iq05:Inst:=Jq05 Xq05
theorem Eq05 (xq06:Tq06):EqF Tryz.prog 36 gives Tryz.f95 [Jq06 xq06] [Lq05_0p,Lq05_1p] (Jq05 (Yq05 xq06)):=fun x y K=>by kernel_rfl
theorem Iq05_ok:InstOk Tryz.prog G.1 Iq05:=iok (gives:=gives) [Lq05_0p,Lq05_1p] (okCons Iq06_ok okNil) 36 follows Tryz.func95 (by kernel_rfl) (fun x=>by kernel_rfl) (Eq05 Xq06)
abbrev Tq08:Type:=Int→Int→(Int→Prop)→Prop
def Yq08 (a0:Int) (a1:Int) (K:Int→Prop):Prop :=
 (lt (wu32 (a0 * 2 ^ Min.min (Int.toNat (wu64 (↑(BitVec.toNat (BitVec.ofInt (64:Nat) (wu64 a1) &&& BitVec.ofInt (64:Nat) 31)):Int))) (32:Nat))) fun v2 =>
 (lt (wu64 (32 - wu64 (↑(BitVec.toNat (BitVec.ofInt (64:Nat) (wu64 a1) &&& BitVec.ofInt (64:Nat) 31)):Int))) fun v3 =>
 (if v3 < 0 then
 False
 else
 K (wu32 (↑(BitVec.toNat (BitVec.ofInt (32:Nat) v2 ||| BitVec.ofInt (32:Nat) (Int.fdiv a0 (2 ^ Min.min (Int.toNat v3) (32:Nat))))):Int)))))
def Xq08:Tq08:=Yq08
def Jq08 (X:Tq08):Inst:=mkI 123 pL76 .nil pL77 .nil X
def Iq08:Inst:=Jq08 Xq08
theorem Eq08:EqF Tryz.prog 17 gives Tryz.f123 [] [] (Jq08 (Yq08)):=fun x y K=>by kernel_rfl
theorem Iq08_ok:InstOk Tryz.prog G.1 Iq08:=iok (gives:=gives) [] okNil 17 follows Tryz.func123 (by kernel_rfl) (fun x=>by kernel_rfl) (Eq08)
abbrev Tq1i:Type:=Int→Int→Int→Int→Int→Int→Int→Int→(Int→Int→Int→Int→Int→Prop)→Prop
def Yq1i (xq08:Tq08) (a0:Int) (a1:Int) (a2:Int) (a3:Int) (a4:Int) (a5:Int) (a6:Int) (a7:Int) (K:Int→Int→Int→Int→Int→Prop):Prop :=
 xq08 a3 5 (fun r8 =>
 (lt (wu32 (wu32 (r8+a0)+a7)) fun v9 =>
 (lt (wu32 (wu32 (v9+a1)+a2)) fun v10 =>
 xq08 a4 30 (fun r11 =>
 K v10 a3 r11 a5 a6))))
def Xq1i:Tq1i:=Yq1i Xq08
def Jq1i (X:Tq1i):Inst:=mkI 124 pL78 pH79 .nil pH79 X
def Iq1i:Inst:=Jq1i Xq1i
theorem Eq1i (xq08:Tq08):EqF Tryz.prog 58 gives Tryz.f124 [Jq08 xq08] [] (Jq1i (Yq1i xq08)):=fun x y K=>by kernel_rfl
theorem Iq1i_ok:InstOk Tryz.prog G.1 Iq1i:=iok (gives:=gives) [] (okCons Iq08_ok okNil) 58 follows Tryz.func124 (by kernel_rfl) (fun x=>by kernel_rfl) (Eq1i Xq08)
abbrev Tq1a:Type:=(List Eng.V)→Int→Int→Int→Int→Int→(Int→Int→Int→Int→Int→Prop)→Prop
def Lq1a_4p:Lp:=⟨261336857795280739939871698507597986398209,[],.nil,.nil,12⟩
def Lq1a_3 (xq1i:Tq1i) (K:Int→Int→Int→Int→Int→Prop) (a1:Int) (a2:Int) (a3:Int) (a4:Int) (a5:Int) (k6:Q80→Prop) (k16:Q81→Prop):(Q82→Prop)→Q82→Prop:=fun k26 x27 =>
 (if decide (x27.1.2.2.2.1 < 80) then
 (if 0≤x27.1.2.2.2.1∧x27.1.2.2.2.1 < 80 then
 (Eng.asInt IntKind.u32 (x27.1.2.2.1[Int.toNat x27.1.2.2.2.1 * (1:Nat)]?) False fun n28 =>
 (if (w64 (Int.tdiv x27.1.2.2.2.1 20) == 0) then
 (lt (wu32 (↑(BitVec.toNat (BitVec.ofInt (32:Nat) x27.2.1.2.1 &&& BitVec.ofInt (32:Nat) (wu32 (↑(BitVec.toNat (BitVec.ofInt (32:Nat) x27.2.1.2.2.1 ^^^ BitVec.ofInt (32:Nat) x27.2.1.2.2.2.1)):Int)))):Int)) fun v29 =>
 xq1i (wu32 (↑(BitVec.toNat (BitVec.ofInt (32:Nat) x27.2.1.2.2.2.1 ^^^ BitVec.ofInt (32:Nat) v29)):Int)) 1518500249 n28 x27.2.1.1 x27.2.1.2.1 x27.2.1.2.2.1 x27.2.1.2.2.2.1 x27.2.1.2.2.2.2.1 (fun r30 r31 r32 r33 r34 =>
 k26 (((),(),x27.1.2.2.1,w64 (x27.1.2.2.2.1+1),()),(r30,r31,r32,r33,r34,()),x27.2.2)))
 else
 (if (w64 (Int.tdiv x27.1.2.2.2.1 20) == 1) then
 (lt (wu32 (↑(BitVec.toNat (BitVec.ofInt (32:Nat) (wu32 (↑(BitVec.toNat (BitVec.ofInt (32:Nat) x27.2.1.2.1 ^^^ BitVec.ofInt (32:Nat) x27.2.1.2.2.1)):Int)) ^^^ BitVec.ofInt (32:Nat) x27.2.1.2.2.2.1)):Int)) fun v35 =>
 xq1i v35 1859775393 n28 x27.2.1.1 x27.2.1.2.1 x27.2.1.2.2.1 x27.2.1.2.2.2.1 x27.2.1.2.2.2.2.1 (fun r36 r37 r38 r39 r40 =>
 k26 (((),(),x27.1.2.2.1,w64 (x27.1.2.2.2.1+1),()),(r36,r37,r38,r39,r40,()),x27.2.2)))
 else
 (if (w64 (Int.tdiv x27.1.2.2.2.1 20) == 2) then
 (lt (wu32 (↑(BitVec.toNat (BitVec.ofInt (32:Nat) x27.2.1.2.2.2.1 &&& BitVec.ofInt (32:Nat) (wu32 (↑(BitVec.toNat (BitVec.ofInt (32:Nat) x27.2.1.2.1 ||| BitVec.ofInt (32:Nat) x27.2.1.2.2.1)):Int)))):Int)) fun v41 =>
 (lt (wu32 (↑(BitVec.toNat (BitVec.ofInt (32:Nat) (wu32 (↑(BitVec.toNat (BitVec.ofInt (32:Nat) x27.2.1.2.1 &&& BitVec.ofInt (32:Nat) x27.2.1.2.2.1)):Int)) ||| BitVec.ofInt (32:Nat) v41)):Int)) fun v42 =>
 xq1i v42 2400959708 n28 x27.2.1.1 x27.2.1.2.1 x27.2.1.2.2.1 x27.2.1.2.2.2.1 x27.2.1.2.2.2.2.1 (fun r43 r44 r45 r46 r47 =>
 k26 (((),(),x27.1.2.2.1,w64 (x27.1.2.2.2.1+1),()),(r43,r44,r45,r46,r47,()),x27.2.2))))
 else
 (lt (wu32 (↑(BitVec.toNat (BitVec.ofInt (32:Nat) (wu32 (↑(BitVec.toNat (BitVec.ofInt (32:Nat) x27.2.1.2.1 ^^^ BitVec.ofInt (32:Nat) x27.2.1.2.2.1)):Int)) ^^^ BitVec.ofInt (32:Nat) x27.2.1.2.2.2.1)):Int)) fun v48 =>
 xq1i v48 3395469782 n28 x27.2.1.1 x27.2.1.2.1 x27.2.1.2.2.1 x27.2.1.2.2.2.1 x27.2.1.2.2.2.2.1 (fun r49 r50 r51 r52 r53 =>
 k26 (((),(),x27.1.2.2.1,w64 (x27.1.2.2.2.1+1),()),(r49,r50,r51,r52,r53,()),x27.2.2)))))))
 else
 False)
 else
 K (wu32 (x27.2.1.1+x27.2.2.1.1)) (wu32 (x27.2.1.2.1+x27.2.2.1.2.1)) (wu32 (x27.2.1.2.2.1+x27.2.2.1.2.2.1)) (wu32 (x27.2.1.2.2.2.1+x27.2.2.1.2.2.2.1)) (wu32 (x27.2.1.2.2.2.2.1+x27.2.2.1.2.2.2.2.1)))
def Lq1a_3p:Lp:=⟨14167099448608935641601,[.trim 14167099448608935641601],pT83,pH84,0⟩
def Lq1a_2 (xq08:Tq08) (xq1i:Tq1i) (K:Int→Int→Int→Int→Int→Prop) (a1:Int) (a2:Int) (a3:Int) (a4:Int) (a5:Int) (k6:Q80→Prop):(Q81→Prop)→Q81→Prop:=fun k16 x17 =>
 (if decide (x17.1.2.2.1 < 80) then
 (if 0≤w64 (x17.1.2.2.1 - 3)∧w64 (x17.1.2.2.1 - 3) < 80 then
 (Eng.asInt IntKind.u32 (Eng.getC x17.2.2.1 (0:Nat) ((0:Nat)+Int.toNat (w64 (x17.1.2.2.1 - 3)) * (1:Nat))) False fun n18 =>
 (if 0≤w64 (x17.1.2.2.1 - 8)∧w64 (x17.1.2.2.1 - 8) < 80 then
 (Eng.asInt IntKind.u32 (Eng.getC x17.2.2.1 (0:Nat) ((0:Nat)+Int.toNat (w64 (x17.1.2.2.1 - 8)) * (1:Nat))) False fun n19 =>
 (if 0≤w64 (x17.1.2.2.1 - 14)∧w64 (x17.1.2.2.1 - 14) < 80 then
 (Eng.asInt IntKind.u32 (Eng.getC x17.2.2.1 (0:Nat) ((0:Nat)+Int.toNat (w64 (x17.1.2.2.1 - 14)) * (1:Nat))) False fun n20 =>
 (lt (wu32 (↑(BitVec.toNat (BitVec.ofInt (32:Nat) (wu32 (↑(BitVec.toNat (BitVec.ofInt (32:Nat) n18 ^^^ BitVec.ofInt (32:Nat) n19)):Int)) ^^^ BitVec.ofInt (32:Nat) n20)):Int)) fun v21 =>
 (if 0≤w64 (x17.1.2.2.1 - 16)∧w64 (x17.1.2.2.1 - 16) < 80 then
 (Eng.asInt IntKind.u32 (Eng.getC x17.2.2.1 (0:Nat) ((0:Nat)+Int.toNat (w64 (x17.1.2.2.1 - 16)) * (1:Nat))) False fun n22 =>
 xq08 (wu32 (↑(BitVec.toNat (BitVec.ofInt (32:Nat) v21 ^^^ BitVec.ofInt (32:Nat) n22)):Int)) 1 (fun r23 =>
 (if 0≤x17.1.2.2.1∧x17.1.2.2.1 < 80 then
 (if (0:Nat) < List.length x17.2.2.1 then
 (if (0:Nat)+Int.toNat x17.1.2.2.1 * (1:Nat)+List.length [Eng.V.c (Value.int IntKind.u32 r23)]≤(80:Nat) then
 (lt (List.set x17.2.2.1 (0:Nat) (Eng.setE (List.getD x17.2.2.1 (0:Nat) Eng.V.bad) ((0:Nat)+Int.toNat x17.1.2.2.1 * (1:Nat)) [Eng.V.c (Value.int IntKind.u32 r23)])) fun v24 =>
 k16 (((),(),w64 (x17.1.2.2.1+1),()),x17.2.1,v24,()))
 else
 False)
 else
 False)
 else
 False)))
 else
 False)))
 else
 False))
 else
 False))
 else
 False)
 else
 (Eng.asAgg (x17.2.2.1[(0:Nat)]?) False fun l25 =>
 (if List.length l25=(80:Nat)∧List.all l25 Eng.isC then
 lp (Lq1a_3 xq1i K a1 a2 a3 a4 a5 k6 k16) (((),(),l25,0,()),x17.2.1,x17.2.1,())
 else
 False)))
def Lq1a_2p:Lp:=⟨273,[.trim 273],pT85,pH86,0⟩
def Lq1a_1 (K:Int→Int→Int→Int→Int→Prop) (a1:Int) (a2:Int) (a3:Int) (a4:Int) (a5:Int) (k6:Q80→Prop):(Q87→Prop)→Q87→Prop:=fun k10 x11 =>
 (if decide (x11.1.2.2.2.2.2.2.2.1 < x11.1.2.2.2.2.2.2.1) then
 (if 0≤x11.1.2.2.2.2.2.2.2.1∧x11.1.2.2.2.2.2.2.2.1 < (↑(List.length x11.1.2.2.2.2.2.1):Int) then
 (Eng.asInt IntKind.u8 (Eng.getC x11.1.2.2.2.2.2.1 (Int.toNat x11.1.2.2.2.2.2.2.2.1) (0:Nat)) False fun n12 =>
 (if 0≤x11.1.2.2.2.1∧x11.1.2.2.2.1 < 80 then
 (Eng.asInt IntKind.u32 (Eng.getC x11.2.2.1 (0:Nat) ((0:Nat)+Int.toNat x11.1.2.2.2.1 * (1:Nat))) False fun n13 =>
 (lt (wu32 (↑(BitVec.toNat (BitVec.ofInt (32:Nat) (wu32 (n13 * 256)) ||| BitVec.ofInt (32:Nat) (wu32 n12))):Int)) fun v14 =>
 (if 0≤x11.1.2.2.2.1∧x11.1.2.2.2.1 < 80 then
 (if (0:Nat) < List.length x11.2.2.1 then
 (if (0:Nat)+Int.toNat x11.1.2.2.2.1 * (1:Nat)+List.length [Eng.V.c (Value.int IntKind.u32 v14)]≤(80:Nat) then
 (lt (List.set x11.2.2.1 (0:Nat) (Eng.setE (List.getD x11.2.2.1 (0:Nat) Eng.V.bad) ((0:Nat)+Int.toNat x11.1.2.2.2.1 * (1:Nat)) [Eng.V.c (Value.int IntKind.u32 v14)])) fun v15 =>
 k10 (((),x11.1.2.1,(),x11.1.2.2.2.1,x11.1.2.2.2.2.1,x11.1.2.2.2.2.2.1,x11.1.2.2.2.2.2.2.1,w64 (x11.1.2.2.2.2.2.2.2.1+1),()),x11.2.1,v15,()))
 else
 False)
 else
 False)
 else
 False)))
 else
 False))
 else
 False)
 else
 k6 (((),x11.1.2.1,(),w64 (x11.1.2.2.2.2.1+1),()),x11.2))
def Lq1a_1p:Lp:=⟨469893171,[.trim 469893171],pT88,pH86,0⟩
def Lq1a_0 (xq08:Tq08) (xq1i:Tq1i) (K:Int→Int→Int→Int→Int→Prop) (a1:Int) (a2:Int) (a3:Int) (a4:Int) (a5:Int):(Q80→Prop)→Q80→Prop:=fun k6 x7 =>
 (if decide (x7.1.2.2.2.1 < 16) then
 (lt (w64 (w64 (4 * x7.1.2.2.2.1)+4)) fun v8 =>
 (if 0≤v8∧v8≤(↑(List.length x7.1.2.1):Int) then
 (if 0≤w64 (4 * x7.1.2.2.2.1)∧w64 (4 * x7.1.2.2.2.1)≤v8 then
 (lt (Eng.cutL x7.1.2.1 (Int.toNat (w64 (4 * x7.1.2.2.2.1))) (Int.toNat v8 - Int.toNat (w64 (4 * x7.1.2.2.2.1)))) fun v9 =>
 lp (Lq1a_1 K a1 a2 a3 a4 a5 k6) (((),x7.1.2.1,(),x7.1.2.2.2.1,x7.1.2.2.2.1,v9,(↑(List.length v9):Int),0,()),x7.2))
 else
 False)
 else
 False))
 else
 lp (Lq1a_2 xq08 xq1i K a1 a2 a3 a4 a5 k6) (((),(),16,()),x7.2))
def Lq1a_0p:Lp:=⟨131091,[.trim 131091],pT89,pH86,0⟩
def Yq1a (xq08:Tq08) (xq1i:Tq1i) (a0:(List Eng.V)) (a1:Int) (a2:Int) (a3:Int) (a4:Int) (a5:Int) (K:Int→Int→Int→Int→Int→Prop):Prop :=
 lp (Lq1a_0 xq08 xq1i K a1 a2 a3 a4 a5) (((),a0,(),0,()),(a1,a2,a3,a4,a5,()),[Eng.V.agg [Eng.V.c (Value.int IntKind.u32 0),Eng.V.c (Value.int IntKind.u32 0),Eng.V.c (Value.int IntKind.u32 0),Eng.V.c (Value.int IntKind.u32 0),Eng.V.c (Value.int IntKind.u32 0),Eng.V.c (Value.int IntKind.u32 0),Eng.V.c (Value.int IntKind.u32 0),Eng.V.c (Value.int IntKind.u32 0),Eng.V.c (Value.int IntKind.u32 0),Eng.V.c (Value.int IntKind.u32 0),Eng.V.c (Value.int IntKind.u32 0),Eng.V.c (Value.int IntKind.u32 0),Eng.V.c (Value.int IntKind.u32 0),Eng.V.c (Value.int IntKind.u32 0),Eng.V.c (Value.int IntKind.u32 0),Eng.V.c (Value.int IntKind.u32 0),Eng.V.c (Value.int IntKind.u32 0),Eng.V.c (Value.int IntKind.u32 0),Eng.V.c (Value.int IntKind.u32 0),Eng.V.c (Value.int IntKind.u32 0),Eng.V.c (Value.int IntKind.u32 0),Eng.V.c (Value.int IntKind.u32 0),Eng.V.c (Value.int IntKind.u32 0),Eng.V.c (Value.int IntKind.u32 0),Eng.V.c (Value.int IntKind.u32 0),Eng.V.c (Value.int IntKind.u32 0),Eng.V.c (Value.int IntKind.u32 0),Eng.V.c (Value.int IntKind.u32 0),Eng.V.c (Value.int IntKind.u32 0),Eng.V.c (Value.int IntKind.u32 0),Eng.V.c (Value.int IntKind.u32 0),Eng.V.c (Value.int IntKind.u32 0),Eng.V.c (Value.int IntKind.u32 0),Eng.V.c (Value.int IntKind.u32 0),Eng.V.c (Value.int IntKind.u32 0),Eng.V.c (Value.int IntKind.u32 0),Eng.V.c (Value.int IntKind.u32 0),Eng.V.c (Value.int IntKind.u32 0),Eng.V.c (Value.int IntKind.u32 0),Eng.V.c (Value.int IntKind.u32 0),Eng.V.c (Value.int IntKind.u32 0),Eng.V.c (Value.int IntKind.u32 0),Eng.V.c (Value.int IntKind.u32 0),Eng.V.c (Value.int IntKind.u32 0),Eng.V.c (Value.int IntKind.u32 0),Eng.V.c (Value.int IntKind.u32 0),Eng.V.c (Value.int IntKind.u32 0),Eng.V.c (Value.int IntKind.u32 0),Eng.V.c (Value.int IntKind.u32 0),Eng.V.c (Value.int IntKind.u32 0),Eng.V.c (Value.int IntKind.u32 0),Eng.V.c (Value.int IntKind.u32 0),Eng.V.c (Value.int IntKind.u32 0),Eng.V.c (Value.int IntKind.u32 0),Eng.V.c (Value.int IntKind.u32 0),Eng.V.c (Value.int IntKind.u32 0),Eng.V.c (Value.int IntKind.u32 0),Eng.V.c (Value.int IntKind.u32 0),Eng.V.c (Value.int IntKind.u32 0),Eng.V.c (Value.int IntKind.u32 0),Eng.V.c (Value.int IntKind.u32 0),Eng.V.c (Value.int IntKind.u32 0),Eng.V.c (Value.int IntKind.u32 0),Eng.V.c (Value.int IntKind.u32 0),Eng.V.c (Value.int IntKind.u32 0),Eng.V.c (Value.int IntKind.u32 0),Eng.V.c (Value.int IntKind.u32 0),Eng.V.c (Value.int IntKind.u32 0),Eng.V.c (Value.int IntKind.u32 0),Eng.V.c (Value.int IntKind.u32 0),Eng.V.c (Value.int IntKind.u32 0),Eng.V.c (Value.int IntKind.u32 0),Eng.V.c (Value.int IntKind.u32 0),Eng.V.c (Value.int IntKind.u32 0),Eng.V.c (Value.int IntKind.u32 0),Eng.V.c (Value.int IntKind.u32 0),Eng.V.c (Value.int IntKind.u32 0),Eng.V.c (Value.int IntKind.u32 0),Eng.V.c (Value.int IntKind.u32 0),Eng.V.c (Value.int IntKind.u32 0)]],())
def Xq1a:Tq1a:=Yq1a Xq08 Xq1i
def Jq1a (X:Tq1a):Inst:=mkI 96 pL90 pH79 .nil pH79 X
def Iq1a:Inst:=Jq1a Xq1a
theorem Eq1a (xq08:Tq08) (xq1i:Tq1i):EqF Tryz.prog 151 gives Tryz.f96 [Jq08 xq08,Jq1i xq1i] [Lq1a_0p,Lq1a_1p,Lq1a_2p,Lq1a_3p,Lq1a_4p] (Jq1a (Yq1a xq08 xq1i)):=fun x y K=>by kernel_rfl
theorem Iq1a_ok:InstOk Tryz.prog G.1 Iq1a:=iok (gives:=gives) [Lq1a_0p,Lq1a_1p,Lq1a_2p,Lq1a_3p,Lq1a_4p] (okCons Iq08_ok (okCons Iq1i_ok okNil)) 151 follows Tryz.func96 (by kernel_rfl) (fun x=>by kernel_rfl) (Eq1a Xq08 Xq1i)
abbrev Tq2r:Type:=(List Eng.V)→(Q91→Prop)→Prop
def Lq2r_2 (K:Q91→Prop) (k6:Q92→Prop) (k9:Q93→Prop):(Q94→Prop)→Q94→Prop:=fun k16 x17 =>
 (if decide (x17.1.2.2.1 < 20) then
 (if 0≤w64 (Int.tdiv x17.1.2.2.1 4)∧w64 (Int.tdiv x17.1.2.2.1 4) < 5 then
 (Eng.asInt IntKind.u32 ([Eng.V.c (Value.int IntKind.u32 x17.2.2.1.1),Eng.V.c (Value.int IntKind.u32 x17.2.2.1.2.1),Eng.V.c (Value.int IntKind.u32 x17.2.2.1.2.2.1),Eng.V.c (Value.int IntKind.u32 x17.2.2.1.2.2.2.1),Eng.V.c (Value.int IntKind.u32 x17.2.2.1.2.2.2.2.1)][(0:Nat)+Int.toNat (w64 (Int.tdiv x17.1.2.2.1 4)) * (1:Nat)]?) False fun n18 =>
 (lt (w64 (24 - w64 (Int.tmod x17.1.2.2.1 (4 :Int) * 8))) fun v19 =>
 (if v19 < 0 then
 False
 else
 (if 0≤x17.1.2.2.1∧x17.1.2.2.1 < 20 then
 (if (0:Nat) < List.length x17.2.1 then
 (if (0:Nat)+Int.toNat x17.1.2.2.1 * (1:Nat)+List.length [Eng.V.c (Value.int IntKind.u8 (wu8 (Int.fdiv n18 (2 ^ Min.min (Int.toNat v19) (32:Nat)))))]≤(20:Nat) then
 (lt (List.set x17.2.1 (0:Nat) (Eng.setE (List.getD x17.2.1 (0:Nat) Eng.V.bad) ((0:Nat)+Int.toNat x17.1.2.2.1 * (1:Nat)) [Eng.V.c (Value.int IntKind.u8 (wu8 (Int.fdiv n18 (2 ^ Min.min (Int.toNat v19) (32:Nat)))))])) fun v20 =>
 k16 (((),(),w64 (x17.1.2.2.1+1),()),v20,x17.2.2))
 else
 False)
 else
 False)
 else
 False))))
 else
 False)
 else
 (Eng.asInt IntKind.u8 (Eng.getC x17.2.1 (0:Nat) (0:Nat)) False fun n21 =>
 (Eng.asInt IntKind.u8 (Eng.getC x17.2.1 (0:Nat) (1:Nat)) False fun n22 =>
 (Eng.asInt IntKind.u8 (Eng.getC x17.2.1 (0:Nat) (2:Nat)) False fun n23 =>
 (Eng.asInt IntKind.u8 (Eng.getC x17.2.1 (0:Nat) (3:Nat)) False fun n24 =>
 (Eng.asInt IntKind.u8 (Eng.getC x17.2.1 (0:Nat) (4:Nat)) False fun n25 =>
 (Eng.asInt IntKind.u8 (Eng.getC x17.2.1 (0:Nat) (5:Nat)) False fun n26 =>
 (Eng.asInt IntKind.u8 (Eng.getC x17.2.1 (0:Nat) (6:Nat)) False fun n27 =>
 (Eng.asInt IntKind.u8 (Eng.getC x17.2.1 (0:Nat) (7:Nat)) False fun n28 =>
 (Eng.asInt IntKind.u8 (Eng.getC x17.2.1 (0:Nat) (8:Nat)) False fun n29 =>
 (Eng.asInt IntKind.u8 (Eng.getC x17.2.1 (0:Nat) (9:Nat)) False fun n30 =>
 (Eng.asInt IntKind.u8 (Eng.getC x17.2.1 (0:Nat) (10:Nat)) False fun n31 =>
 (Eng.asInt IntKind.u8 (Eng.getC x17.2.1 (0:Nat) (11:Nat)) False fun n32 =>
 (Eng.asInt IntKind.u8 (Eng.getC x17.2.1 (0:Nat) (12:Nat)) False fun n33 =>
 (Eng.asInt IntKind.u8 (Eng.getC x17.2.1 (0:Nat) (13:Nat)) False fun n34 =>
 (Eng.asInt IntKind.u8 (Eng.getC x17.2.1 (0:Nat) (14:Nat)) False fun n35 =>
 (Eng.asInt IntKind.u8 (Eng.getC x17.2.1 (0:Nat) (15:Nat)) False fun n36 =>
 (Eng.asInt IntKind.u8 (Eng.getC x17.2.1 (0:Nat) (16:Nat)) False fun n37 =>
 (Eng.asInt IntKind.u8 (Eng.getC x17.2.1 (0:Nat) (17:Nat)) False fun n38 =>
 (Eng.asInt IntKind.u8 (Eng.getC x17.2.1 (0:Nat) (18:Nat)) False fun n39 =>
 (Eng.asInt IntKind.u8 (Eng.getC x17.2.1 (0:Nat) (19:Nat)) False fun n40 =>
 (if (0:Nat) < List.length x17.2.1 then
 (lt (List.set x17.2.1 (0:Nat) (Eng.setE (List.getD x17.2.1 (0:Nat) Eng.V.bad) (0:Nat) [Eng.V.c (Value.int IntKind.u8 n21),Eng.V.c (Value.int IntKind.u8 n22),Eng.V.c (Value.int IntKind.u8 n23),Eng.V.c (Value.int IntKind.u8 n24),Eng.V.c (Value.int IntKind.u8 n25),Eng.V.c (Value.int IntKind.u8 n26),Eng.V.c (Value.int IntKind.u8 n27),Eng.V.c (Value.int IntKind.u8 n28),Eng.V.c (Value.int IntKind.u8 n29),Eng.V.c (Value.int IntKind.u8 n30),Eng.V.c (Value.int IntKind.u8 n31),Eng.V.c (Value.int IntKind.u8 n32),Eng.V.c (Value.int IntKind.u8 n33),Eng.V.c (Value.int IntKind.u8 n34),Eng.V.c (Value.int IntKind.u8 n35),Eng.V.c (Value.int IntKind.u8 n36),Eng.V.c (Value.int IntKind.u8 n37),Eng.V.c (Value.int IntKind.u8 n38),Eng.V.c (Value.int IntKind.u8 n39),Eng.V.c (Value.int IntKind.u8 n40)])) fun v41 =>
 (Eng.asInt IntKind.u8 (Eng.getC v41 (0:Nat) (0:Nat)) False fun n42 =>
 (Eng.asInt IntKind.u8 (Eng.getC v41 (0:Nat) (1:Nat)) False fun n43 =>
 (Eng.asInt IntKind.u8 (Eng.getC v41 (0:Nat) (2:Nat)) False fun n44 =>
 (Eng.asInt IntKind.u8 (Eng.getC v41 (0:Nat) (3:Nat)) False fun n45 =>
 (Eng.asInt IntKind.u8 (Eng.getC v41 (0:Nat) (4:Nat)) False fun n46 =>
 (Eng.asInt IntKind.u8 (Eng.getC v41 (0:Nat) (5:Nat)) False fun n47 =>
 (Eng.asInt IntKind.u8 (Eng.getC v41 (0:Nat) (6:Nat)) False fun n48 =>
 (Eng.asInt IntKind.u8 (Eng.getC v41 (0:Nat) (7:Nat)) False fun n49 =>
 (Eng.asInt IntKind.u8 (Eng.getC v41 (0:Nat) (8:Nat)) False fun n50 =>
 (Eng.asInt IntKind.u8 (Eng.getC v41 (0:Nat) (9:Nat)) False fun n51 =>
 (Eng.asInt IntKind.u8 (Eng.getC v41 (0:Nat) (10:Nat)) False fun n52 =>
 (Eng.asInt IntKind.u8 (Eng.getC v41 (0:Nat) (11:Nat)) False fun n53 =>
 (Eng.asInt IntKind.u8 (Eng.getC v41 (0:Nat) (12:Nat)) False fun n54 =>
 (Eng.asInt IntKind.u8 (Eng.getC v41 (0:Nat) (13:Nat)) False fun n55 =>
 (Eng.asInt IntKind.u8 (Eng.getC v41 (0:Nat) (14:Nat)) False fun n56 =>
 (Eng.asInt IntKind.u8 (Eng.getC v41 (0:Nat) (15:Nat)) False fun n57 =>
 (Eng.asInt IntKind.u8 (Eng.getC v41 (0:Nat) (16:Nat)) False fun n58 =>
 (Eng.asInt IntKind.u8 (Eng.getC v41 (0:Nat) (17:Nat)) False fun n59 =>
 (Eng.asInt IntKind.u8 (Eng.getC v41 (0:Nat) (18:Nat)) False fun n60 =>
 (Eng.asInt IntKind.u8 (Eng.getC v41 (0:Nat) (19:Nat)) False fun n61 =>
 K (n42,n43,n44,n45,n46,n47,n48,n49,n50,n51,n52,n53,n54,n55,n56,n57,n58,n59,n60,n61,()))))))))))))))))))))))
 else
 False))))))))))))))))))))))
def Lq2r_2p:Lp:=⟨35184372088900,[.trim 35184372088900],pT95,pH96,0⟩
def Lq2r_1 (xq1a:Tq1a) (K:Q91→Prop) (k6:Q92→Prop):(Q93→Prop)→Q93→Prop:=fun k9 x10 =>
 (if decide ((↑(List.length x10.1.2.1):Int) > 0) then
 (if (0 :Int)≤64∧64≤(↑(List.length x10.1.2.1):Int) then
 xq1a (Eng.cutL x10.1.2.1 (0:Nat) (64:Nat)) x10.2.2.1.1 x10.2.2.1.2.1 x10.2.2.1.2.2.1 x10.2.2.1.2.2.2.1 x10.2.2.1.2.2.2.2.1 (fun r11 r12 r13 r14 r15 =>
 (if 0≤(↑(List.length x10.1.2.1):Int)∧(↑(List.length x10.1.2.1):Int)≤(↑(List.length x10.1.2.1):Int) then
 (if (0 :Int)≤64∧64≤(↑(List.length x10.1.2.1):Int) then
 k9 (((),Eng.cutL x10.1.2.1 (64:Nat) (Int.toNat (↑(List.length x10.1.2.1):Int) - (64:Nat)),(),()),x10.2.1,(r11,r12,r13,r14,r15,()),())
 else
 False)
 else
 False))
 else
 False)
 else
 lp (Lq2r_2 K k6 k9) (((),(),0,()),x10.2))
def Lq2r_1p:Lp:=⟨76,[.trim 76,.thin 208,.trim 76],pT97,pH96,0⟩
def Lq2r_0 (xq1a:Tq1a) (K:Q91→Prop):(Q92→Prop)→Q92→Prop:=fun k6 x7 =>
 (if decide (x7.1.2.2.2.1≥0) then
 (if w64 (8 * x7.1.2.2.2.1) < 0 then
 False
 else
 (lt (wu8 (Int.fdiv x7.1.2.2.1 (2 ^ Min.min (Int.toNat (w64 (8 * x7.1.2.2.2.1))) (64:Nat)))) fun v8 =>
 (if x7.2.2.1.2.1 then
 (if Eng.roomOk (List.length x7.2.2.1.1+List.length [Eng.V.c (Value.int IntKind.u8 v8)]) (1:Nat) then
 k6 (((),(),x7.1.2.2.1,w64 (x7.1.2.2.2.1 - 1),()),x7.2.1,(x7.2.2.1.1++[Eng.V.c (Value.int IntKind.u8 v8)],x7.2.2.1.2),())
 else
 False)
 else
 False)))
 else
 lp (Lq2r_1 xq1a K k6) (((),x7.2.2.1.1,(),()),x7.2.1,(1732584193,4023233417,2562383102,271733878,3285377520,()),()))
def Lq2r_0p:Lp:=⟨60,[.trim 60],pT98,pH99,0⟩
def Yq2r (xq05:Tq05) (xq1a:Tq1a) (a0:(List Eng.V)) (K:Q91→Prop):Prop :=
 xq05 a0 (fun r1 r2 r3 =>
 (if r2 then
 (if Eng.roomOk (List.length r1+(1:Nat)) (1:Nat) then
 (lt (w64 (184 - Int.tmod (↑(List.length (r1++[Eng.V.c (Value.int IntKind.u8 128)])):Int) 64)) fun v4 =>
 (if 0≤Int.tmod v4 64∧Int.tmod v4 (64 :Int)≤4398046511104 then
 (if r2 then
 (if Eng.roomOk (List.length (r1++[Eng.V.c (Value.int IntKind.u8 128)])+List.length (List.replicate (Int.toNat (Int.tmod v4 64)) (Eng.ofVal (Value.int IntKind.u8 0)))) (1:Nat) then
 (lt (r1++[Eng.V.c (Value.int IntKind.u8 128)]++List.replicate (Int.toNat (Int.tmod v4 64)) (Eng.ofVal (Value.int IntKind.u8 0))) fun v5 =>
 lp (Lq2r_0 xq1a K) (((),(),wu64 (wu64 (↑(List.length r1):Int) * 8),7,()),[Eng.V.agg [Eng.V.c (Value.int IntKind.u8 0),Eng.V.c (Value.int IntKind.u8 0),Eng.V.c (Value.int IntKind.u8 0),Eng.V.c (Value.int IntKind.u8 0),Eng.V.c (Value.int IntKind.u8 0),Eng.V.c (Value.int IntKind.u8 0),Eng.V.c (Value.int IntKind.u8 0),Eng.V.c (Value.int IntKind.u8 0),Eng.V.c (Value.int IntKind.u8 0),Eng.V.c (Value.int IntKind.u8 0),Eng.V.c (Value.int IntKind.u8 0),Eng.V.c (Value.int IntKind.u8 0),Eng.V.c (Value.int IntKind.u8 0),Eng.V.c (Value.int IntKind.u8 0),Eng.V.c (Value.int IntKind.u8 0),Eng.V.c (Value.int IntKind.u8 0),Eng.V.c (Value.int IntKind.u8 0),Eng.V.c (Value.int IntKind.u8 0),Eng.V.c (Value.int IntKind.u8 0),Eng.V.c (Value.int IntKind.u8 0)]],(v5,r2,r3),()))
 else
 False)
 else
 False)
 else
 False))
 else
 False)
 else
 False))
def Xq2r:Tq2r:=Yq2r Xq05 Xq1a
def Jq2r (X:Tq2r):Inst:=mkI 59 pL75 .nil pL100 .nil X
def Iq2r:Inst:=Jq2r Xq2r
theorem Eq2r (xq05:Tq05) (xq1a:Tq1a):EqF Tryz.prog 62 gives Tryz.f59 [Jq05 xq05,Jq1a xq1a] [Lq2r_0p,Lq2r_1p,Lq2r_2p] (Jq2r (Yq2r xq05 xq1a)):=fun x y K=>by kernel_rfl
theorem Iq2r_ok:InstOk Tryz.prog G.1 Iq2r:=iok (gives:=gives) [Lq2r_0p,Lq2r_1p,Lq2r_2p] (okCons Iq05_ok (okCons Iq1a_ok okNil)) 62 follows Tryz.func59 (by kernel_rfl) (fun x=>by kernel_rfl) (Eq2r Xq05 Xq1a)
abbrev Tq1y:Type:=(List Eng.V)→(Q91→Prop)→Prop
def Lq1y_1 (xjoin:Tjoin) (K:Q91→Prop) (k1:Q101→Prop):(Q102→Prop)→Q102→Prop:=fun k4 x5 =>
 (if decide (x5.1.2.2.2.2.2.2.2.2.2.1 < x5.1.2.2.2.2.2.2.2.2.1) then
 (if 0≤x5.1.2.2.2.2.2.2.2.2.2.1∧x5.1.2.2.2.2.2.2.2.2.2.1 < (↑(List.length x5.1.2.2.2.2.2.2.2.1):Int) then
 (Eng.asStr (Eng.getC x5.1.2.2.2.2.2.2.2.1 (Int.toNat x5.1.2.2.2.2.2.2.2.2.2.1) (0:Nat)) False fun t6 =>
 (Eng.asSl (1:Nat) (Eng.getC x5.1.2.2.2.2.2.2.2.1 (Int.toNat x5.1.2.2.2.2.2.2.2.2.2.1) (1:Nat)) False fun l7 l8 =>
 (Eng.asSl (1:Nat) (Eng.getC x5.1.2.2.2.2.2.2.2.1 (Int.toNat x5.1.2.2.2.2.2.2.2.2.2.1) (2:Nat)) False fun l9 l10 =>
 (Eng.asBool (Eng.getC x5.1.2.2.2.2.2.2.2.1 (Int.toNat x5.1.2.2.2.2.2.2.2.2.2.1) (3:Nat)) False fun b11 =>
 (if (ByteArray.toList t6 == ByteArray.toList x5.1.2.2.2.1) then
 xjoin l8 (ByteArray.mk #[]) (fun r12 =>
 (if Eng.roomOk (List.length x5.2.2.2.1+List.length [Eng.V.sl (1:Nat) false (Eng.bytesV r12)]) (24:Nat) then
 k4 ((x5.1.1,(),(),x5.1.2.2.2.1,(),x5.1.2.2.2.2.2.1,x5.1.2.2.2.2.2.2.1,x5.1.2.2.2.2.2.2.2.1,x5.1.2.2.2.2.2.2.2.2.1,w64 (x5.1.2.2.2.2.2.2.2.2.2.1+1),()),x5.2.1,x5.2.2.1,x5.2.2.2.1++[Eng.V.sl (1:Nat) false (Eng.bytesV r12)],())
 else
 False))
 else
 k4 ((x5.1.1,(),(),x5.1.2.2.2.1,(),x5.1.2.2.2.2.2.1,x5.1.2.2.2.2.2.2.1,x5.1.2.2.2.2.2.2.2.1,x5.1.2.2.2.2.2.2.2.2.1,w64 (x5.1.2.2.2.2.2.2.2.2.2.1+1),()),x5.2))))))
 else
 False)
 else
 k1 ((x5.1.1,(),(),(),x5.1.2.2.2.2.2.1,w64 (x5.1.2.2.2.2.2.2.1+1),()),x5.2))
def Lq1y_1p:Lp:=⟨116525,[.trim 116525],pT103,pH104,0⟩
def Lq1y_0 (xjoin:Tjoin) (xq2r:Tq2r) (K:Q91→Prop):(Q101→Prop)→Q101→Prop:=fun k1 x2 =>
 (if decide (x2.1.2.2.2.2.2.1 < x2.1.2.2.2.2.1) then
 (if 0≤x2.1.2.2.2.2.2.1∧x2.1.2.2.2.2.2.1 < (↑(List.length x2.2.2.1):Int) then
 (Eng.asStr (Eng.getC x2.2.2.1 (Int.toNat x2.1.2.2.2.2.2.1) (0:Nat)) False fun t3 =>
 lp (Lq1y_1 xjoin K k1) ((x2.1.1,(),(),t3,(),x2.1.2.2.2.2.1,x2.1.2.2.2.2.2.1,x2.1.1,(↑(List.length x2.1.1):Int),0,()),x2.2))
 else
 False)
 else
 xq2r x2.2.2.2.1 (fun r13 =>
 (if (0:Nat) < List.length x2.2.1 then
 (lt (List.set x2.2.1 (0:Nat) (Eng.setE (List.getD x2.2.1 (0:Nat) Eng.V.bad) (0:Nat) [Eng.V.c (Value.int IntKind.u8 r13.1),Eng.V.c (Value.int IntKind.u8 r13.2.1),Eng.V.c (Value.int IntKind.u8 r13.2.2.1),Eng.V.c (Value.int IntKind.u8 r13.2.2.2.1),Eng.V.c (Value.int IntKind.u8 r13.2.2.2.2.1),Eng.V.c (Value.int IntKind.u8 r13.2.2.2.2.2.1),Eng.V.c (Value.int IntKind.u8 r13.2.2.2.2.2.2.1),Eng.V.c (Value.int IntKind.u8 r13.2.2.2.2.2.2.2.1),Eng.V.c (Value.int IntKind.u8 r13.2.2.2.2.2.2.2.2.1),Eng.V.c (Value.int IntKind.u8 r13.2.2.2.2.2.2.2.2.2.1),Eng.V.c (Value.int IntKind.u8 r13.2.2.2.2.2.2.2.2.2.2.1),Eng.V.c (Value.int IntKind.u8 r13.2.2.2.2.2.2.2.2.2.2.2.1),Eng.V.c (Value.int IntKind.u8 r13.2.2.2.2.2.2.2.2.2.2.2.2.1),Eng.V.c (Value.int IntKind.u8 r13.2.2.2.2.2.2.2.2.2.2.2.2.2.1),Eng.V.c (Value.int IntKind.u8 r13.2.2.2.2.2.2.2.2.2.2.2.2.2.2.1),Eng.V.c (Value.int IntKind.u8 r13.2.2.2.2.2.2.2.2.2.2.2.2.2.2.2.1),Eng.V.c (Value.int IntKind.u8 r13.2.2.2.2.2.2.2.2.2.2.2.2.2.2.2.2.1),Eng.V.c (Value.int IntKind.u8 r13.2.2.2.2.2.2.2.2.2.2.2.2.2.2.2.2.2.1),Eng.V.c (Value.int IntKind.u8 r13.2.2.2.2.2.2.2.2.2.2.2.2.2.2.2.2.2.2.1),Eng.V.c (Value.int IntKind.u8 r13.2.2.2.2.2.2.2.2.2.2.2.2.2.2.2.2.2.2.2.1)])) fun v14 =>
 (Eng.asInt IntKind.u8 (Eng.getC v14 (0:Nat) (0:Nat)) False fun n15 =>
 (Eng.asInt IntKind.u8 (Eng.getC v14 (0:Nat) (1:Nat)) False fun n16 =>
 (Eng.asInt IntKind.u8 (Eng.getC v14 (0:Nat) (2:Nat)) False fun n17 =>
 (Eng.asInt IntKind.u8 (Eng.getC v14 (0:Nat) (3:Nat)) False fun n18 =>
 (Eng.asInt IntKind.u8 (Eng.getC v14 (0:Nat) (4:Nat)) False fun n19 =>
 (Eng.asInt IntKind.u8 (Eng.getC v14 (0:Nat) (5:Nat)) False fun n20 =>
 (Eng.asInt IntKind.u8 (Eng.getC v14 (0:Nat) (6:Nat)) False fun n21 =>
 (Eng.asInt IntKind.u8 (Eng.getC v14 (0:Nat) (7:Nat)) False fun n22 =>
 (Eng.asInt IntKind.u8 (Eng.getC v14 (0:Nat) (8:Nat)) False fun n23 =>
 (Eng.asInt IntKind.u8 (Eng.getC v14 (0:Nat) (9:Nat)) False fun n24 =>
 (Eng.asInt IntKind.u8 (Eng.getC v14 (0:Nat) (10:Nat)) False fun n25 =>
 (Eng.asInt IntKind.u8 (Eng.getC v14 (0:Nat) (11:Nat)) False fun n26 =>
 (Eng.asInt IntKind.u8 (Eng.getC v14 (0:Nat) (12:Nat)) False fun n27 =>
 (Eng.asInt IntKind.u8 (Eng.getC v14 (0:Nat) (13:Nat)) False fun n28 =>
 (Eng.asInt IntKind.u8 (Eng.getC v14 (0:Nat) (14:Nat)) False fun n29 =>
 (Eng.asInt IntKind.u8 (Eng.getC v14 (0:Nat) (15:Nat)) False fun n30 =>
 (Eng.asInt IntKind.u8 (Eng.getC v14 (0:Nat) (16:Nat)) False fun n31 =>
 (Eng.asInt IntKind.u8 (Eng.getC v14 (0:Nat) (17:Nat)) False fun n32 =>
 (Eng.asInt IntKind.u8 (Eng.getC v14 (0:Nat) (18:Nat)) False fun n33 =>
 (Eng.asInt IntKind.u8 (Eng.getC v14 (0:Nat) (19:Nat)) False fun n34 =>
 K (n15,n16,n17,n18,n19,n20,n21,n22,n23,n24,n25,n26,n27,n28,n29,n30,n31,n32,n33,n34,()))))))))))))))))))))))
 else
 False)))
def Lq1y_0p:Lp:=⟨1805,[.trim 1805,.fat 3 1 640,.trim 1805],pT105,pH104,0⟩
def Yq1y (xjoin:Tjoin) (xq2r:Tq2r) (a0:(List Eng.V)) (K:Q91→Prop):Prop :=
 lp (Lq1y_0 xjoin xq2r K) ((a0,(),(),(),3,0,()),[Eng.V.agg [Eng.V.c (Value.int IntKind.u8 0),Eng.V.c (Value.int IntKind.u8 0),Eng.V.c (Value.int IntKind.u8 0),Eng.V.c (Value.int IntKind.u8 0),Eng.V.c (Value.int IntKind.u8 0),Eng.V.c (Value.int IntKind.u8 0),Eng.V.c (Value.int IntKind.u8 0),Eng.V.c (Value.int IntKind.u8 0),Eng.V.c (Value.int IntKind.u8 0),Eng.V.c (Value.int IntKind.u8 0),Eng.V.c (Value.int IntKind.u8 0),Eng.V.c (Value.int IntKind.u8 0),Eng.V.c (Value.int IntKind.u8 0),Eng.V.c (Value.int IntKind.u8 0),Eng.V.c (Value.int IntKind.u8 0),Eng.V.c (Value.int IntKind.u8 0),Eng.V.c (Value.int IntKind.u8 0),Eng.V.c (Value.int IntKind.u8 0),Eng.V.c (Value.int IntKind.u8 0),Eng.V.c (Value.int IntKind.u8 0)]],[Eng.V.c (Value.string (ByteArray.mk #[(35:UInt8),(36:UInt8)])),Eng.V.c (Value.string (ByteArray.mk #[(35:UInt8),(64:UInt8)])),Eng.V.c (Value.string (ByteArray.mk #[]))],[],())
def Xq1y:Tq1y:=Yq1y Xjoin Xq2r
def Jq1y (X:Tq1y):Inst:=mkI 26 pL106 .nil pL100 .nil X
def Iq1y:Inst:=Jq1y Xq1y
theorem Eq1y (xjoin:Tjoin) (xq2r:Tq2r):EqF Tryz.prog 35 gives Tryz.f26 [Jjoin xjoin,Jq2r xq2r] [Lq1y_0p,Lq1y_1p] (Jq1y (Yq1y xjoin xq2r)):=fun x y K=>by kernel_rfl
theorem Iq1y_ok:InstOk Tryz.prog G.1 Iq1y:=iok (gives:=gives) [Lq1y_0p,Lq1y_1p] (okCons Ijoin_ok (okCons Iq2r_ok okNil)) 35 follows Tryz.func26 (by kernel_rfl) (fun x=>by kernel_rfl) (Eq1y Xjoin Xq2r)
abbrev Tq25:Type:=Q91→(Q37→Prop)→Prop
def Lq25_0 (K:Q37→Prop):(Q107→Prop)→Q107→Prop:=fun k1 x2 =>
 (if decide (x2.1.2.2.1 < 20) then
 (if 0≤x2.1.2.2.1∧x2.1.2.2.1 < 20 then
 (Eng.asInt IntKind.u8 ([Eng.V.c (Value.int IntKind.u8 x2.1.2.1.1),Eng.V.c (Value.int IntKind.u8 x2.1.2.1.2.1),Eng.V.c (Value.int IntKind.u8 x2.1.2.1.2.2.1),Eng.V.c (Value.int IntKind.u8 x2.1.2.1.2.2.2.1),Eng.V.c (Value.int IntKind.u8 x2.1.2.1.2.2.2.2.1),Eng.V.c (Value.int IntKind.u8 x2.1.2.1.2.2.2.2.2.1),Eng.V.c (Value.int IntKind.u8 x2.1.2.1.2.2.2.2.2.2.1),Eng.V.c (Value.int IntKind.u8 x2.1.2.1.2.2.2.2.2.2.2.1),Eng.V.c (Value.int IntKind.u8 x2.1.2.1.2.2.2.2.2.2.2.2.1),Eng.V.c (Value.int IntKind.u8 x2.1.2.1.2.2.2.2.2.2.2.2.2.1),Eng.V.c (Value.int IntKind.u8 x2.1.2.1.2.2.2.2.2.2.2.2.2.2.1),Eng.V.c (Value.int IntKind.u8 x2.1.2.1.2.2.2.2.2.2.2.2.2.2.2.1),Eng.V.c (Value.int IntKind.u8 x2.1.2.1.2.2.2.2.2.2.2.2.2.2.2.2.1),Eng.V.c (Value.int IntKind.u8 x2.1.2.1.2.2.2.2.2.2.2.2.2.2.2.2.2.1),Eng.V.c (Value.int IntKind.u8 x2.1.2.1.2.2.2.2.2.2.2.2.2.2.2.2.2.2.1),Eng.V.c (Value.int IntKind.u8 x2.1.2.1.2.2.2.2.2.2.2.2.2.2.2.2.2.2.2.1),Eng.V.c (Value.int IntKind.u8 x2.1.2.1.2.2.2.2.2.2.2.2.2.2.2.2.2.2.2.2.1),Eng.V.c (Value.int IntKind.u8 x2.1.2.1.2.2.2.2.2.2.2.2.2.2.2.2.2.2.2.2.2.1),Eng.V.c (Value.int IntKind.u8 x2.1.2.1.2.2.2.2.2.2.2.2.2.2.2.2.2.2.2.2.2.2.1),Eng.V.c (Value.int IntKind.u8 x2.1.2.1.2.2.2.2.2.2.2.2.2.2.2.2.2.2.2.2.2.2.2.1)][Int.toNat x2.1.2.2.1 * (1:Nat)]?) False fun n3 =>
 (if 0≤w64 (Int.tdiv x2.1.2.2.1 4)∧w64 (Int.tdiv x2.1.2.2.1 4) < 5 then
 (Eng.asInt IntKind.u32 (Eng.getC x2.2.1 (0:Nat) ((0:Nat)+Int.toNat (w64 (Int.tdiv x2.1.2.2.1 4)) * (1:Nat))) False fun n4 =>
 (lt (wu32 (↑(BitVec.toNat (BitVec.ofInt (32:Nat) (wu32 (n4 * 256)) ||| BitVec.ofInt (32:Nat) (wu32 n3))):Int)) fun v5 =>
 (if 0≤w64 (Int.tdiv x2.1.2.2.1 4)∧w64 (Int.tdiv x2.1.2.2.1 4) < 5 then
 (if (0:Nat) < List.length x2.2.1 then
 (if (0:Nat)+Int.toNat (w64 (Int.tdiv x2.1.2.2.1 4)) * (1:Nat)+List.length [Eng.V.c (Value.int IntKind.u32 v5)]≤(5:Nat) then
 (lt (List.set x2.2.1 (0:Nat) (Eng.setE (List.getD x2.2.1 (0:Nat) Eng.V.bad) ((0:Nat)+Int.toNat (w64 (Int.tdiv x2.1.2.2.1 4)) * (1:Nat)) [Eng.V.c (Value.int IntKind.u32 v5)])) fun v6 =>
 k1 (((),x2.1.2.1,w64 (x2.1.2.2.1+1),()),v6,()))
 else
 False)
 else
 False)
 else
 False)))
 else
 False))
 else
 False)
 else
 (Eng.asInt IntKind.u32 (Eng.getC x2.2.1 (0:Nat) (0:Nat)) False fun n7 =>
 (Eng.asInt IntKind.u32 (Eng.getC x2.2.1 (0:Nat) (1:Nat)) False fun n8 =>
 (Eng.asInt IntKind.u32 (Eng.getC x2.2.1 (0:Nat) (2:Nat)) False fun n9 =>
 (Eng.asInt IntKind.u32 (Eng.getC x2.2.1 (0:Nat) (3:Nat)) False fun n10 =>
 (Eng.asInt IntKind.u32 (Eng.getC x2.2.1 (0:Nat) (4:Nat)) False fun n11 =>
 (if (0:Nat) < List.length x2.2.1 then
 (lt (List.set x2.2.1 (0:Nat) (Eng.setE (List.getD x2.2.1 (0:Nat) Eng.V.bad) (0:Nat) [Eng.V.c (Value.int IntKind.u32 n7),Eng.V.c (Value.int IntKind.u32 n8),Eng.V.c (Value.int IntKind.u32 n9),Eng.V.c (Value.int IntKind.u32 n10),Eng.V.c (Value.int IntKind.u32 n11)])) fun v12 =>
 (Eng.asInt IntKind.u32 (Eng.getC v12 (0:Nat) (0:Nat)) False fun n13 =>
 (Eng.asInt IntKind.u32 (Eng.getC v12 (0:Nat) (1:Nat)) False fun n14 =>
 (Eng.asInt IntKind.u32 (Eng.getC v12 (0:Nat) (2:Nat)) False fun n15 =>
 (Eng.asInt IntKind.u32 (Eng.getC v12 (0:Nat) (3:Nat)) False fun n16 =>
 (Eng.asInt IntKind.u32 (Eng.getC v12 (0:Nat) (4:Nat)) False fun n17 =>
 K (n13,n14,n15,n16,n17,())))))))
 else
 False)))))))
def Lq25_0p:Lp:=⟨100,[.trim 100],pT108,pH109,0⟩
def Yq25 (a0:Q91) (K:Q37→Prop):Prop :=
 lp (Lq25_0 K) (((),a0,0,()),[Eng.V.agg [Eng.V.c (Value.int IntKind.u32 0),Eng.V.c (Value.int IntKind.u32 0),Eng.V.c (Value.int IntKind.u32 0),Eng.V.c (Value.int IntKind.u32 0),Eng.V.c (Value.int IntKind.u32 0)]],())
def Xq25:Tq25:=Yq25
def Jq25 (X:Tq25):Inst:=mkI 25 pL100 .nil pL110 .nil X
def Iq25:Inst:=Jq25 Xq25
theorem Eq25:EqF Tryz.prog 23 gives Tryz.f25 [] [Lq25_0p] (Jq25 (Yq25)):=fun x y K=>by kernel_rfl
theorem Iq25_ok:InstOk Tryz.prog G.1 Iq25:=iok (gives:=gives) [Lq25_0p] okNil 23 follows Tryz.func25 (by kernel_rfl) (fun x=>by kernel_rfl) (Eq25)
end Go.Proofs.YtdjldmolhkkipaaGreatDoor
end
section
set_option linter.unusedVariables false
set_option linter.unusedSimpArgs false
namespace Go.Proofs.YtdjldmolhkkipaaGreatDoor
open Go Go.Proofs.YtdjldmolhkkipaaGreatDoor.Eng
set_option maxRecDepth 100000
set_option maxHeartbeats 4000000
variable {G:Gs}
abbrev Tq23:Type:=ByteArray→(Q58→Q67→(List Eng.V)→Bool→Bool→Prop)→Prop
def Lq23_0 (xq1p:Tq1p) (xq1u:Tq1u) (xq2a:Tq2a) (xq21:Tq21) (xq1x:Tq1x) (xq2l:Tq2l) (xq1y:Tq1y) (xq25:Tq25) (K:Q58→Q67→(List Eng.V)→Bool→Bool→Prop):(Q111→Prop)→Q111→Prop:=fun k4 x5 =>
 (if decide (x5.1.2.2.2.2.2.2.2.2.1 < x5.1.2.2.2.2.2.2.2.1) then
 (if 0≤x5.1.2.2.2.2.2.2.2.2.1∧x5.1.2.2.2.2.2.2.2.2.1 < (↑(List.length x5.2.2.2.2.2.1.1):Int) then
 (Eng.asStr (Eng.getC x5.2.2.2.2.2.1.1 (Int.toNat x5.1.2.2.2.2.2.2.2.2.1) (0:Nat)) False fun t6 =>
 (Eng.asSl (1:Nat) (Eng.getC x5.2.2.2.2.2.1.1 (Int.toNat x5.1.2.2.2.2.2.2.2.2.1) (1:Nat)) False fun l7 l8 =>
 (Eng.asSl (1:Nat) (Eng.getC x5.2.2.2.2.2.1.1 (Int.toNat x5.1.2.2.2.2.2.2.2.2.1) (2:Nat)) False fun l9 l10 =>
 (Eng.asBool (Eng.getC x5.2.2.2.2.2.1.1 (Int.toNat x5.1.2.2.2.2.2.2.2.2.1) (3:Nat)) False fun b11 =>
 xq1p (w64 (x5.1.2.2.2.2.2.2.2.2.1+1)) (t6,l8,l10,b11,()) x5.2.2.2.1.1 x5.2.2.2.1.2.1 x5.2.2.2.1.2.2.1 x5.2.2.2.1.2.2.2.1 x5.2.2.2.1.2.2.2.2.1 x5.2.2.2.2.1 (fun r12 r13 r14 r15 r16 r17 r18 r19 r20 =>
 (if (r12 != 0) then
 xq1u (w64 (x5.1.2.2.2.2.2.2.2.2.1+1)) r12 (fun r21 r22 r23 r24 r25 =>
 K ((),r21.2) r22 r23 r24 r25)
 else
 k4 ((x5.1.1,(),(),((),()),(),(),(),x5.1.2.2.2.2.2.2.2.1,w64 (x5.1.2.2.2.2.2.2.2.2.1+1),()),x5.2.1,x5.2.2.1,(r17,r13,r14,r15,r16,(),()),r20,x5.2.2.2.2.2)))))))
 else
 False)
 else
 (if (!x5.2.2.2.1.2.2.2.2.1) then
 xq1u (w64 ((↑(List.length x5.2.2.2.2.2.1.1):Int)+1)) 2 (fun r26 r27 r28 r29 r30 =>
 K ((),r26.2) r27 r28 r29 r30)
 else
 (Eng.asMpI IntKind.i64 (Eng.mpGet (ByteArray.mk #[(35:UInt8),(64:UInt8)]) x5.2.2.2.2.1) False fun n31 n32 =>
 (if decide (n31 > 0) then
 (if 0≤w64 (n31 - 1)∧w64 (n31 - 1) < (↑(List.length x5.2.2.2.2.2.1.1):Int) then
 (Eng.asSl (1:Nat) (Eng.getC x5.2.2.2.2.2.1.1 (Int.toNat (w64 (n31 - 1))) (2:Nat)) False fun l33 l34 =>
 (if (0 :Int)≤0∧0 < (↑(List.length l34):Int) then
 (Eng.asInt IntKind.i64 (Eng.getC l34 (0:Nat) (0:Nat)) False fun n35 =>
 xq2a n35 (fun r36 r37 =>
 xq21 (x5.2.2.2.1.1,true,r36,()) (fun r38 =>
 (if (!r38) then
 xq1u n31 9 (fun r39 r40 r41 r42 r43 =>
 K ((),r39.2) r40 r41 r42 r43)
 else
 (Eng.asMpI IntKind.i64 (Eng.mpGet (ByteArray.mk #[(35:UInt8),(104:UInt8)]) x5.2.2.2.2.1) False fun n44 n45 =>
 (if decide (n44 > 0) then
 xq1x x5.1.1 (fun r46 r47 r48 =>
 (if 0≤w64 (n44 - 1)∧w64 (n44 - 1) < (↑(List.length r46):Int) then
 (Eng.asStr (Eng.getC r46 (Int.toNat (w64 (n44 - 1))) (0:Nat)) False fun t49 =>
 (if 0≤(↑(ByteArray.size t49):Int)∧(↑(ByteArray.size t49):Int)≤(↑(ByteArray.size t49):Int) then
 (if (0 :Int)≤2∧2≤(↑(ByteArray.size t49):Int) then
 xq2l (ByteArray.extract t49 (2:Nat) (Int.toNat (↑(ByteArray.size t49):Int))) (fun r50 r51 =>
 xq1y x5.2.2.2.2.2.1.1 (fun r52 =>
 xq25 r52 (fun r53 =>
 (lt (!(r50.1 == r53.1 && (r50.2.1 == r53.2.1 && (r50.2.2.1 == r53.2.2.1 && (r50.2.2.2.1 == r53.2.2.2.1 && (r50.2.2.2.2.1 == r53.2.2.2.2.1 && true)))))) fun v54 =>
 (if v54 then
 xq1u n44 3 (fun r55 r56 r57 r58 r59 =>
 K ((),r55.2) r56 r57 r58 r59)
 else
 K ((),true,r36,()) (0,0,()) x5.2.2.2.1.1 false true)))))
 else
 False)
 else
 False))
 else
 False))
 else
 K ((),true,r36,()) (0,0,()) x5.2.2.2.1.1 false true))))))
 else
 False))
 else
 False)
 else
 (Eng.asMpI IntKind.i64 (Eng.mpGet (ByteArray.mk #[(35:UInt8),(104:UInt8)]) x5.2.2.2.2.1) False fun n60 n61 =>
 (if decide (n60 > 0) then
 xq1x x5.1.1 (fun r62 r63 r64 =>
 (if 0≤w64 (n60 - 1)∧w64 (n60 - 1) < (↑(List.length r62):Int) then
 (Eng.asStr (Eng.getC r62 (Int.toNat (w64 (n60 - 1))) (0:Nat)) False fun t65 =>
 (if 0≤(↑(ByteArray.size t65):Int)∧(↑(ByteArray.size t65):Int)≤(↑(ByteArray.size t65):Int) then
 (if (0 :Int)≤2∧2≤(↑(ByteArray.size t65):Int) then
 xq2l (ByteArray.extract t65 (2:Nat) (Int.toNat (↑(ByteArray.size t65):Int))) (fun r66 r67 =>
 xq1y x5.2.2.2.2.2.1.1 (fun r68 =>
 xq25 r68 (fun r69 =>
 (lt (!(r66.1 == r69.1 && (r66.2.1 == r69.2.1 && (r66.2.2.1 == r69.2.2.1 && (r66.2.2.2.1 == r69.2.2.2.1 && (r66.2.2.2.2.1 == r69.2.2.2.2.1 && true)))))) fun v70 =>
 (if v70 then
 xq1u n60 3 (fun r71 r72 r73 r74 r75 =>
 K ((),r71.2) r72 r73 r74 r75)
 else
 K ((),x5.2.2.2.1.2.1,x5.2.2.2.1.2.2.1,()) (0,0,()) x5.2.2.2.1.1 false true)))))
 else
 False)
 else
 False))
 else
 False))
 else
 K ((),x5.2.2.2.1.2.1,x5.2.2.2.1.2.2.1,()) (0,0,()) x5.2.2.2.1.1 false true))))))
def Lq23_0p:Lp:=⟨1835133,[.trim 1835133,.thin 512,.trim 1835133,.ren 513 288],pT112,pH113,0⟩
def Yq23 (xq28:Tq28) (xq1p:Tq1p) (xq1u:Tq1u) (xq2a:Tq2a) (xq21:Tq21) (xq1x:Tq1x) (xq2l:Tq2l) (xq1y:Tq1y) (xq25:Tq25) (a0:ByteArray) (K:Q58→Q67→(List Eng.V)→Bool→Bool→Prop):Prop :=
 xq28 a0 (fun r1 r2 r3 =>
 lp (Lq23_0 xq1p xq1u xq2a xq21 xq1x xq2l xq1y xq25 K) ((a0,(),(),((),()),(),(),(),(↑(List.length r1):Int),0,()),([],false,0,()),(0,0,()),([],false,0,0,false,(),()),[],(r1,r2,r3),()))
def Xq23:Tq23:=Yq23 Xq28 Xq1p Xq1u Xq2a Xq21 Xq1x Xq2l Xq1y Xq25
def Jq23 (X:Tq23):Inst:=mkI 7 pL0 .nil pL68 pH49 X
def Iq23:Inst:=Jq23 Xq23
theorem Eq23 (xq28:Tq28) (xq1p:Tq1p) (xq1u:Tq1u) (xq2a:Tq2a) (xq21:Tq21) (xq1x:Tq1x) (xq2l:Tq2l) (xq1y:Tq1y) (xq25:Tq25):EqF Tryz.prog 108 gives Tryz.f7 [Jq28 xq28,Jq1p xq1p,Jq1u xq1u,Jq2a xq2a,Jq21 xq21,Jq1x xq1x,Jq2l xq2l,Jq1y xq1y,Jq25 xq25] [Lq23_0p] (Jq23 (Yq23 xq28 xq1p xq1u xq2a xq21 xq1x xq2l xq1y xq25)):=fun x y K=>by kernel_rfl
theorem Iq23_ok:InstOk Tryz.prog G.1 Iq23:=iok (gives:=gives) [Lq23_0p] (okCons Iq28_ok (okCons Iq1p_ok (okCons Iq1u_ok (okCons Iq2a_ok (okCons Iq21_ok (okCons Iq1x_ok (okCons Iq2l_ok (okCons Iq1y_ok (okCons Iq25_ok okNil))))))))) 108 follows Tryz.func7 (by kernel_rfl) (fun x=>by kernel_rfl) (Eq23 Xq28 Xq1p Xq1u Xq2a Xq21 Xq1x Xq2l Xq1y Xq25)
abbrev Tq2m:Type:=Int→(Int→Bool→Prop)→Prop
def Yq2m (xq2s:Tq2s) (a0:Int) (K:Int→Bool→Prop):Prop :=
 xq2s a0 2208988800 (fun r1 r2 =>
 (if (!r2) then
 K 0 false
 else
 (if decide (r1 < 0) then
 K 0 false
 else
 K r1 true)))
def Xq2m:Tq2m:=Yq2m Xq2s
def Jq2m (X:Tq2m):Inst:=mkI 35 pL2 .nil pL21 .nil X
def Iq2m:Inst:=Jq2m Xq2m
theorem Eq2m (xq2s:Tq2s):EqF Tryz.prog 18 gives Tryz.f35 [Jq2s xq2s] [] (Jq2m (Yq2m xq2s)):=fun x y K=>by kernel_rfl
theorem Iq2m_ok:InstOk Tryz.prog G.1 Iq2m:=iok (gives:=gives) [] (okCons Iq2s_ok okNil) 18 follows Tryz.func35 (by kernel_rfl) (fun x=>by kernel_rfl) (Eq2m Xq2s)
abbrev Tq2b:Type:=Int→Int→(ByteArray→Prop)→Prop
def Yq2b (xq2m:Tq2m) (xitoa:Titoa) (a0:Int) (a1:Int) (K:ByteArray→Prop):Prop :=
 xq2m a0 (fun r2 r3 =>
 xitoa r2 (fun r4 =>
 (if (↑(ByteArray.size r4+(1:Nat)):Int) > 9223372036854775807 then
 False
 else
 xitoa a1 (fun r5 =>
 (if (↑(ByteArray.size (r4++ByteArray.mk #[(9:UInt8)])+ByteArray.size r5):Int) > 9223372036854775807 then
 False
 else
 (lt (r4++ByteArray.mk #[(9:UInt8)]++r5) fun v6 =>
 (if (↑(ByteArray.size v6+(1:Nat)):Int) > 9223372036854775807 then
 False
 else
 K (v6++ByteArray.mk #[(10:UInt8)]))))))))
def Xq2b:Tq2b:=Yq2b Xq2m Xitoa
def Jq2b (X:Tq2b):Inst:=mkI 36 pL20 .nil pL0 .nil X
def Iq2b:Inst:=Jq2b Xq2b
theorem Eq2b (xq2m:Tq2m) (xitoa:Titoa):EqF Tryz.prog 19 gives Tryz.f36 [Jq2m xq2m,Jitoa xitoa] [] (Jq2b (Yq2b xq2m xitoa)):=fun x y K=>by kernel_rfl
theorem Iq2b_ok:InstOk Tryz.prog G.1 Iq2b:=iok (gives:=gives) [] (okCons Iq2m_ok (okCons Iitoa_ok okNil)) 19 follows Tryz.func36 (by kernel_rfl) (fun x=>by kernel_rfl) (Eq2b Xq2m Xitoa)
abbrev Tq26:Type:=ByteArray→(Q91→Prop)→Prop
def Yq26 (xq28:Tq28) (xq1y:Tq1y) (a0:ByteArray) (K:Q91→Prop):Prop :=
 xq28 a0 (fun r1 r2 r3 =>
 xq1y r1 (fun r4 =>
 K r4))
def Xq26:Tq26:=Yq26 Xq28 Xq1y
def Jq26 (X:Tq26):Inst:=mkI 12 pL0 .nil pL100 .nil X
def Iq26:Inst:=Jq26 Xq26
theorem Eq26 (xq28:Tq28) (xq1y:Tq1y):EqF Tryz.prog 6 gives Tryz.f12 [Jq28 xq28,Jq1y xq1y] [] (Jq26 (Yq26 xq28 xq1y)):=fun x y K=>by kernel_rfl
theorem Iq26_ok:InstOk Tryz.prog G.1 Iq26:=iok (gives:=gives) [] (okCons Iq28_ok (okCons Iq1y_ok okNil)) 6 follows Tryz.func12 (by kernel_rfl) (fun x=>by kernel_rfl) (Eq26 Xq28 Xq1y)
abbrev Tq2t:Type:=Q91→(ByteArray→Prop)→Prop
def Lq2t_0 (K:ByteArray→Prop):(Q114→Prop)→Q114→Prop:=fun k1 x2 =>
 (if decide (x2.1.2.2.2.1 < 20) then
 (if 0≤x2.1.2.2.2.1∧x2.1.2.2.2.1 < 20 then
 (Eng.asInt IntKind.u8 ([Eng.V.c (Value.int IntKind.u8 x2.1.2.2.1.1),Eng.V.c (Value.int IntKind.u8 x2.1.2.2.1.2.1),Eng.V.c (Value.int IntKind.u8 x2.1.2.2.1.2.2.1),Eng.V.c (Value.int IntKind.u8 x2.1.2.2.1.2.2.2.1),Eng.V.c (Value.int IntKind.u8 x2.1.2.2.1.2.2.2.2.1),Eng.V.c (Value.int IntKind.u8 x2.1.2.2.1.2.2.2.2.2.1),Eng.V.c (Value.int IntKind.u8 x2.1.2.2.1.2.2.2.2.2.2.1),Eng.V.c (Value.int IntKind.u8 x2.1.2.2.1.2.2.2.2.2.2.2.1),Eng.V.c (Value.int IntKind.u8 x2.1.2.2.1.2.2.2.2.2.2.2.2.1),Eng.V.c (Value.int IntKind.u8 x2.1.2.2.1.2.2.2.2.2.2.2.2.2.1),Eng.V.c (Value.int IntKind.u8 x2.1.2.2.1.2.2.2.2.2.2.2.2.2.2.1),Eng.V.c (Value.int IntKind.u8 x2.1.2.2.1.2.2.2.2.2.2.2.2.2.2.2.1),Eng.V.c (Value.int IntKind.u8 x2.1.2.2.1.2.2.2.2.2.2.2.2.2.2.2.2.1),Eng.V.c (Value.int IntKind.u8 x2.1.2.2.1.2.2.2.2.2.2.2.2.2.2.2.2.2.1),Eng.V.c (Value.int IntKind.u8 x2.1.2.2.1.2.2.2.2.2.2.2.2.2.2.2.2.2.2.1),Eng.V.c (Value.int IntKind.u8 x2.1.2.2.1.2.2.2.2.2.2.2.2.2.2.2.2.2.2.2.1),Eng.V.c (Value.int IntKind.u8 x2.1.2.2.1.2.2.2.2.2.2.2.2.2.2.2.2.2.2.2.2.1),Eng.V.c (Value.int IntKind.u8 x2.1.2.2.1.2.2.2.2.2.2.2.2.2.2.2.2.2.2.2.2.2.1),Eng.V.c (Value.int IntKind.u8 x2.1.2.2.1.2.2.2.2.2.2.2.2.2.2.2.2.2.2.2.2.2.2.1),Eng.V.c (Value.int IntKind.u8 x2.1.2.2.1.2.2.2.2.2.2.2.2.2.2.2.2.2.2.2.2.2.2.2.1)][Int.toNat x2.1.2.2.2.1 * (1:Nat)]?) False fun n3 =>
 (if 0≤Int.fdiv n3 16∧Int.fdiv n3 (16 :Int) < 16 then
 (lt (Eng.bAt (ByteArray.mk #[(48:UInt8),(49:UInt8),(50:UInt8),(51:UInt8),(52:UInt8),(53:UInt8),(54:UInt8),(55:UInt8),(56:UInt8),(57:UInt8),(97:UInt8),(98:UInt8),(99:UInt8),(100:UInt8),(101:UInt8),(102:UInt8)]) (Int.toNat (Int.fdiv n3 16))) fun v4 =>
 (if 0≤wu8 (↑(BitVec.toNat (BitVec.ofInt (8:Nat) n3 &&& BitVec.ofInt (8:Nat) 15)):Int)∧wu8 (↑(BitVec.toNat (BitVec.ofInt (8:Nat) n3 &&& BitVec.ofInt (8:Nat) 15)):Int) < 16 then
 (lt (Eng.bAt (ByteArray.mk #[(48:UInt8),(49:UInt8),(50:UInt8),(51:UInt8),(52:UInt8),(53:UInt8),(54:UInt8),(55:UInt8),(56:UInt8),(57:UInt8),(97:UInt8),(98:UInt8),(99:UInt8),(100:UInt8),(101:UInt8),(102:UInt8)]) (Int.toNat (wu8 (↑(BitVec.toNat (BitVec.ofInt (8:Nat) n3 &&& BitVec.ofInt (8:Nat) 15)):Int)))) fun v5 =>
 (if Eng.roomOk (List.length x2.2.1+List.length [Eng.V.c (Value.int IntKind.u8 v4),Eng.V.c (Value.int IntKind.u8 v5)]) (1:Nat) then
 k1 ((x2.1.1,(),x2.1.2.2.1,w64 (x2.1.2.2.2.1+1),()),x2.2.1++[Eng.V.c (Value.int IntKind.u8 v4),Eng.V.c (Value.int IntKind.u8 v5)],())
 else
 False))
 else
 False))
 else
 False))
 else
 False)
 else
 (if Eng.allU8 x2.2.1 then
 K (Eng.packB x2.2.1)
 else
 False))
def Lq2t_0p:Lp:=⟨204,[.trim 204,.fat 3 1 416,.trim 204],pT115,pH116,0⟩
def Yq2t (a0:Q91) (K:ByteArray→Prop):Prop :=
 lp (Lq2t_0 K) ((ByteArray.mk #[],(),a0,0,()),[],())
def Xq2t:Tq2t:=Yq2t
def Jq2t (X:Tq2t):Inst:=mkI 69 pL100 .nil pL0 .nil X
def Iq2t:Inst:=Jq2t Xq2t
theorem Eq2t:EqF Tryz.prog 22 gives Tryz.f69 [] [Lq2t_0p] (Jq2t (Yq2t)):=fun x y K=>by kernel_rfl
theorem Iq2t_ok:InstOk Tryz.prog G.1 Iq2t:=iok (gives:=gives) [Lq2t_0p] okNil 22 follows Tryz.func69 (by kernel_rfl) (fun x=>by kernel_rfl) (Eq2t)
abbrev Tq2e:Type:=Q37→(ByteArray→Prop)→Prop
def Lq2e_1 (xjoin:Tjoin) (K:ByteArray→Prop) (k1:Q117→Prop):(Q118→Prop)→Q118→Prop:=fun k27 x28 =>
 (if decide (x28.1.2.2.2.2.1 < x28.1.2.2.2.1) then
 (lt (w64 (w64 (8 * x28.1.2.2.2.2.1)+8)) fun v29 =>
 (if 0≤v29∧v29≤(↑(ByteArray.size x28.1.2.1):Int) then
 (if 0≤w64 (8 * x28.1.2.2.2.2.1)∧w64 (8 * x28.1.2.2.2.2.1)≤v29 then
 (lt (ByteArray.extract x28.1.2.1 (Int.toNat (w64 (8 * x28.1.2.2.2.2.1))) (Int.toNat v29)) fun v30 =>
 (if 0≤x28.1.2.2.2.2.1∧x28.1.2.2.2.2.1 < (↑(List.length x28.2.1):Int) then
 (if Int.toNat x28.1.2.2.2.2.1 < List.length x28.2.1 then
 k27 ((x28.1.1,x28.1.2.1,(),x28.1.2.2.2.1,w64 (x28.1.2.2.2.2.1+1),()),List.set x28.2.1 (Int.toNat x28.1.2.2.2.2.1) (Eng.setE (List.getD x28.2.1 (Int.toNat x28.1.2.2.2.2.1) Eng.V.bad) (0:Nat) [Eng.V.c (Value.string v30)]),())
 else
 False)
 else
 False))
 else
 False)
 else
 False))
 else
 xjoin x28.2.1 (ByteArray.mk #[(32:UInt8)]) (fun r31 =>
 K r31))
def Lq2e_1p:Lp:=⟨805306468,[.trim 805306468],pT119,pH120,0⟩
def Lq2e_0 (xq2t:Tq2t) (xjoin:Tjoin) (K:ByteArray→Prop):(Q117→Prop)→Q117→Prop:=fun k1 x2 =>
 (if decide (x2.1.2.2.2.1 < 20) then
 (if 0≤w64 (Int.tdiv x2.1.2.2.2.1 4)∧w64 (Int.tdiv x2.1.2.2.2.1 4) < 5 then
 (Eng.asInt IntKind.u32 ([Eng.V.c (Value.int IntKind.u32 x2.2.1.1),Eng.V.c (Value.int IntKind.u32 x2.2.1.2.1),Eng.V.c (Value.int IntKind.u32 x2.2.1.2.2.1),Eng.V.c (Value.int IntKind.u32 x2.2.1.2.2.2.1),Eng.V.c (Value.int IntKind.u32 x2.2.1.2.2.2.2.1)][(0:Nat)+Int.toNat (w64 (Int.tdiv x2.1.2.2.2.1 4)) * (1:Nat)]?) False fun n3 =>
 (lt (w64 (24 - w64 (Int.tmod x2.1.2.2.2.1 (4 :Int) * 8))) fun v4 =>
 (if v4 < 0 then
 False
 else
 (if 0≤x2.1.2.2.2.1∧x2.1.2.2.2.1 < 20 then
 (if (0:Nat) < List.length x2.2.2.1 then
 (if (0:Nat)+Int.toNat x2.1.2.2.2.1 * (1:Nat)+List.length [Eng.V.c (Value.int IntKind.u8 (wu8 (Int.fdiv n3 (2 ^ Min.min (Int.toNat v4) (32:Nat)))))]≤(20:Nat) then
 (lt (List.set x2.2.2.1 (0:Nat) (Eng.setE (List.getD x2.2.2.1 (0:Nat) Eng.V.bad) ((0:Nat)+Int.toNat x2.1.2.2.2.1 * (1:Nat)) [Eng.V.c (Value.int IntKind.u8 (wu8 (Int.fdiv n3 (2 ^ Min.min (Int.toNat v4) (32:Nat)))))])) fun v5 =>
 k1 (((),x2.1.2.1,(),w64 (x2.1.2.2.2.1+1),()),x2.2.1,v5,()))
 else
 False)
 else
 False)
 else
 False))))
 else
 False)
 else
 (Eng.asInt IntKind.u8 (Eng.getC x2.2.2.1 (0:Nat) (0:Nat)) False fun n6 =>
 (Eng.asInt IntKind.u8 (Eng.getC x2.2.2.1 (0:Nat) (1:Nat)) False fun n7 =>
 (Eng.asInt IntKind.u8 (Eng.getC x2.2.2.1 (0:Nat) (2:Nat)) False fun n8 =>
 (Eng.asInt IntKind.u8 (Eng.getC x2.2.2.1 (0:Nat) (3:Nat)) False fun n9 =>
 (Eng.asInt IntKind.u8 (Eng.getC x2.2.2.1 (0:Nat) (4:Nat)) False fun n10 =>
 (Eng.asInt IntKind.u8 (Eng.getC x2.2.2.1 (0:Nat) (5:Nat)) False fun n11 =>
 (Eng.asInt IntKind.u8 (Eng.getC x2.2.2.1 (0:Nat) (6:Nat)) False fun n12 =>
 (Eng.asInt IntKind.u8 (Eng.getC x2.2.2.1 (0:Nat) (7:Nat)) False fun n13 =>
 (Eng.asInt IntKind.u8 (Eng.getC x2.2.2.1 (0:Nat) (8:Nat)) False fun n14 =>
 (Eng.asInt IntKind.u8 (Eng.getC x2.2.2.1 (0:Nat) (9:Nat)) False fun n15 =>
 (Eng.asInt IntKind.u8 (Eng.getC x2.2.2.1 (0:Nat) (10:Nat)) False fun n16 =>
 (Eng.asInt IntKind.u8 (Eng.getC x2.2.2.1 (0:Nat) (11:Nat)) False fun n17 =>
 (Eng.asInt IntKind.u8 (Eng.getC x2.2.2.1 (0:Nat) (12:Nat)) False fun n18 =>
 (Eng.asInt IntKind.u8 (Eng.getC x2.2.2.1 (0:Nat) (13:Nat)) False fun n19 =>
 (Eng.asInt IntKind.u8 (Eng.getC x2.2.2.1 (0:Nat) (14:Nat)) False fun n20 =>
 (Eng.asInt IntKind.u8 (Eng.getC x2.2.2.1 (0:Nat) (15:Nat)) False fun n21 =>
 (Eng.asInt IntKind.u8 (Eng.getC x2.2.2.1 (0:Nat) (16:Nat)) False fun n22 =>
 (Eng.asInt IntKind.u8 (Eng.getC x2.2.2.1 (0:Nat) (17:Nat)) False fun n23 =>
 (Eng.asInt IntKind.u8 (Eng.getC x2.2.2.1 (0:Nat) (18:Nat)) False fun n24 =>
 (Eng.asInt IntKind.u8 (Eng.getC x2.2.2.1 (0:Nat) (19:Nat)) False fun n25 =>
 xq2t (n6,n7,n8,n9,n10,n11,n12,n13,n14,n15,n16,n17,n18,n19,n20,n21,n22,n23,n24,n25,()) (fun r26 =>
 lp (Lq2e_1 xjoin K k1) ((x2.1.2.1,r26,(),5,0,()),[Eng.V.c (Value.string (ByteArray.mk #[])),Eng.V.c (Value.string (ByteArray.mk #[])),Eng.V.c (Value.string (ByteArray.mk #[])),Eng.V.c (Value.string (ByteArray.mk #[])),Eng.V.c (Value.string (ByteArray.mk #[]))],())))))))))))))))))))))))
def Lq2e_0p:Lp:=⟨270,[.trim 270],pT121,pH122,0⟩
def Yq2e (xq2t:Tq2t) (xjoin:Tjoin) (a0:Q37) (K:ByteArray→Prop):Prop :=
 lp (Lq2e_0 xq2t xjoin K) (((),ByteArray.mk #[],(),0,()),a0,[Eng.V.agg [Eng.V.c (Value.int IntKind.u8 0),Eng.V.c (Value.int IntKind.u8 0),Eng.V.c (Value.int IntKind.u8 0),Eng.V.c (Value.int IntKind.u8 0),Eng.V.c (Value.int IntKind.u8 0),Eng.V.c (Value.int IntKind.u8 0),Eng.V.c (Value.int IntKind.u8 0),Eng.V.c (Value.int IntKind.u8 0),Eng.V.c (Value.int IntKind.u8 0),Eng.V.c (Value.int IntKind.u8 0),Eng.V.c (Value.int IntKind.u8 0),Eng.V.c (Value.int IntKind.u8 0),Eng.V.c (Value.int IntKind.u8 0),Eng.V.c (Value.int IntKind.u8 0),Eng.V.c (Value.int IntKind.u8 0),Eng.V.c (Value.int IntKind.u8 0),Eng.V.c (Value.int IntKind.u8 0),Eng.V.c (Value.int IntKind.u8 0),Eng.V.c (Value.int IntKind.u8 0),Eng.V.c (Value.int IntKind.u8 0)]],())
def Xq2e:Tq2e:=Yq2e Xq2t Xjoin
def Jq2e (X:Tq2e):Inst:=mkI 37 pL110 .nil pL0 .nil X
def Iq2e:Inst:=Jq2e Xq2e
theorem Eq2e (xq2t:Tq2t) (xjoin:Tjoin):EqF Tryz.prog 45 gives Tryz.f37 [Jq2t xq2t,Jjoin xjoin] [Lq2e_0p,Lq2e_1p] (Jq2e (Yq2e xq2t xjoin)):=fun x y K=>by kernel_rfl
theorem Iq2e_ok:InstOk Tryz.prog G.1 Iq2e:=iok (gives:=gives) [Lq2e_0p,Lq2e_1p] (okCons Iq2t_ok (okCons Ijoin_ok okNil)) 45 follows Tryz.func37 (by kernel_rfl) (fun x=>by kernel_rfl) (Eq2e Xq2t Xjoin)
abbrev Tq2c:Type:=Q53→Int→(ByteArray→Bool→Prop)→Prop
def Lq2c_0 (xq2b:Tq2b) (xq26:Tq26) (xq25:Tq25) (xq2e:Tq2e) (K:ByteArray→Bool→Prop):(Q123→Prop)→Q123→Prop:=fun k11 x12 =>
 (if decide (x12.1.2.2.2.2.2.2.1 < x12.1.2.2.2.2.2.1) then
 (if 0≤x12.1.2.2.2.2.2.2.1∧x12.1.2.2.2.2.2.2.1 < (↑(List.length x12.1.2.2.2.2.1):Int) then
 (Eng.asInt IntKind.i64 (Eng.getC x12.1.2.2.2.2.1 (Int.toNat x12.1.2.2.2.2.2.2.1) (0:Nat)) False fun n13 =>
 (Eng.asInt IntKind.i64 (Eng.getC x12.1.2.2.2.2.1 (Int.toNat x12.1.2.2.2.2.2.2.1) (1:Nat)) False fun n14 =>
 (Eng.asBool (Eng.getC x12.1.2.2.2.2.1 (Int.toNat x12.1.2.2.2.2.2.2.1) (2:Nat)) False fun b15 =>
 (if b15 then
 K (ByteArray.mk #[]) false
 else
 (if decide (w64 (x12.1.2.2.2.1+n14) < 0) then
 K (ByteArray.mk #[]) false
 else
 (lt (w64 (w64 (n13+1) * 86400)) fun v16 =>
 xq2b v16 (w64 (x12.1.2.2.2.1+n14)) (fun r17 =>
 (if (↑(ByteArray.size x12.1.2.2.1+ByteArray.size r17):Int) > 9223372036854775807 then
 False
 else
 k11 ((x12.1.1,x12.1.2.1,x12.1.2.2.1++r17,w64 (x12.1.2.2.2.1+n14),x12.1.2.2.2.2.1,x12.1.2.2.2.2.2.1,w64 (x12.1.2.2.2.2.2.2.1+1),()),())))))))))
 else
 False)
 else
 (if (↑(ByteArray.size x12.1.2.2.1+(2:Nat)):Int) > 9223372036854775807 then
 False
 else
 (lt (x12.1.2.2.1++ByteArray.mk #[(35:UInt8),(104:UInt8)]) fun v18 =>
 (if (↑(ByteArray.size v18+(1:Nat)):Int) > 9223372036854775807 then
 False
 else
 xq26 x12.1.2.2.1 (fun r19 =>
 xq25 r19 (fun r20 =>
 xq2e r20 (fun r21 =>
 (if (↑(ByteArray.size (v18++ByteArray.mk #[(9:UInt8)])+ByteArray.size r21):Int) > 9223372036854775807 then
 False
 else
 (lt (v18++ByteArray.mk #[(9:UInt8)]++r21) fun v22 =>
 (if (↑(ByteArray.size v22+(1:Nat)):Int) > 9223372036854775807 then
 False
 else
 K (v22++ByteArray.mk #[(10:UInt8)]) true))))))))))
def Lq2c_0p:Lp:=⟨30786325578352,[.trim 30786325578352],pT124,.nil,0⟩
def Yq2c (xq21:Tq21) (xitoa:Titoa) (xq2m:Tq2m) (xq2b:Tq2b) (xq26:Tq26) (xq25:Tq25) (xq2e:Tq2e) (a0:Q53) (a1:Int) (K:ByteArray→Bool→Prop):Prop :=
 xq21 a0 (fun r2 =>
 (if (!r2) then
 K (ByteArray.mk #[]) false
 else
 (if decide (a1 < 0) then
 K (ByteArray.mk #[]) false
 else
 xitoa a1 (fun r3 =>
 (if (↑((3:Nat)+ByteArray.size r3):Int) > 9223372036854775807 then
 False
 else
 (lt (ByteArray.mk #[(35:UInt8),(36:UInt8),(9:UInt8)]++r3) fun v4 =>
 (if (↑(ByteArray.size v4+(1:Nat)):Int) > 9223372036854775807 then
 False
 else
 (if a0.2.1 then
 xq2m a0.2.2.1 (fun r5 r6 =>
 xitoa r5 (fun r7 =>
 (if (↑((3:Nat)+ByteArray.size r7):Int) > 9223372036854775807 then
 False
 else
 (lt (ByteArray.mk #[(35:UInt8),(64:UInt8),(9:UInt8)]++r7) fun v8 =>
 (if (↑(ByteArray.size v8+(1:Nat)):Int) > 9223372036854775807 then
 False
 else
 (if (↑(ByteArray.size (v4++ByteArray.mk #[(10:UInt8)])+ByteArray.size (v8++ByteArray.mk #[(10:UInt8)])):Int) > 9223372036854775807 then
 False
 else
 (lt (v4++ByteArray.mk #[(10:UInt8)]++(v8++ByteArray.mk #[(10:UInt8)])) fun v9 =>
 xq2b 63072000 10 (fun r10 =>
 (if (↑(ByteArray.size v9+ByteArray.size r10):Int) > 9223372036854775807 then
 False
 else
 lp (Lq2c_0 xq2b xq26 xq25 xq2e K) ((ByteArray.mk #[],false,v9++r10,10,a0.1,(↑(List.length a0.1):Int),0,()),()))))))))))
 else
 xq2b 63072000 10 (fun r23 =>
 (if (↑(ByteArray.size (v4++ByteArray.mk #[(10:UInt8)])+ByteArray.size r23):Int) > 9223372036854775807 then
 False
 else
 (lt (v4++ByteArray.mk #[(10:UInt8)]++r23) fun v24 =>
 lp (Lq2c_0 xq2b xq26 xq25 xq2e K) ((ByteArray.mk #[],false,v24,10,a0.1,(↑(List.length a0.1):Int),0,()),()))))))))))))
def Xq2c:Tq2c:=Yq2c Xq21 Xitoa Xq2m Xq2b Xq26 Xq25 Xq2e
def Jq2c (X:Tq2c):Inst:=mkI 9 pL125 .nil pL126 .nil X
def Iq2c:Inst:=Jq2c Xq2c
theorem Eq2c (xq21:Tq21) (xitoa:Titoa) (xq2m:Tq2m) (xq2b:Tq2b) (xq26:Tq26) (xq25:Tq25) (xq2e:Tq2e):EqF Tryz.prog 76 gives Tryz.f9 [Jq21 xq21,Jitoa xitoa,Jq2m xq2m,Jq2b xq2b,Jq26 xq26,Jq25 xq25,Jq2e xq2e] [Lq2c_0p] (Jq2c (Yq2c xq21 xitoa xq2m xq2b xq26 xq25 xq2e)):=fun x y K=>by kernel_rfl
theorem Iq2c_ok:InstOk Tryz.prog G.1 Iq2c:=iok (gives:=gives) [Lq2c_0p] (okCons Iq21_ok (okCons Iitoa_ok (okCons Iq2m_ok (okCons Iq2b_ok (okCons Iq26_ok (okCons Iq25_ok (okCons Iq2e_ok okNil))))))) 76 follows Tryz.func9 (by kernel_rfl) (fun x=>by kernel_rfl) (Eq2c Xq21 Xitoa Xq2m Xq2b Xq26 Xq25 Xq2e)
abbrev Tq10:Type:=Q53→Q53→(Bool→Prop)→Prop
def Lq10_0 (K:Bool→Prop):(Q127→Prop)→Q127→Prop:=fun k2 x3 =>
 (if decide (x3.1.2.2.2.1 < (↑(List.length x3.2.1.1):Int)) then
 (if 0≤x3.1.2.2.2.1∧x3.1.2.2.2.1 < (↑(List.length x3.2.1.1):Int) then
 (Eng.asInt IntKind.i64 (Eng.getC x3.2.1.1 (Int.toNat x3.1.2.2.2.1) (0:Nat)) False fun n4 =>
 (Eng.asInt IntKind.i64 (Eng.getC x3.2.1.1 (Int.toNat x3.1.2.2.2.1) (1:Nat)) False fun n5 =>
 (Eng.asBool (Eng.getC x3.2.1.1 (Int.toNat x3.1.2.2.2.1) (2:Nat)) False fun b6 =>
 (if 0≤x3.1.2.2.2.1∧x3.1.2.2.2.1 < (↑(List.length x3.2.2.1.1):Int) then
 (Eng.asInt IntKind.i64 (Eng.getC x3.2.2.1.1 (Int.toNat x3.1.2.2.2.1) (0:Nat)) False fun n7 =>
 (Eng.asInt IntKind.i64 (Eng.getC x3.2.2.1.1 (Int.toNat x3.1.2.2.2.1) (1:Nat)) False fun n8 =>
 (Eng.asBool (Eng.getC x3.2.2.1.1 (Int.toNat x3.1.2.2.2.1) (2:Nat)) False fun b9 =>
 (lt (!(n4 == n7 && (n5 == n8 && (b6 == b9 && true)))) fun v10 =>
 (if v10 then
 K false
 else
 k2 (((),(),x3.1.2.2.1,w64 (x3.1.2.2.2.1+1),()),x3.2))))))
 else
 False))))
 else
 False)
 else
 K true)
def Lq10_0p:Lp:=⟨60,[.trim 60],pT128,pH129,0⟩
def Yq10 (a0:Q53) (a1:Q53) (K:Bool→Prop):Prop :=
 (if ((↑(List.length a0.1):Int) != (↑(List.length a1.1):Int)) then
 K false
 else
 (if (!a0.2.1 == a1.2.1) then
 K false
 else
 (if (a0.2.2.1 != a1.2.2.1) then
 K false
 else
 lp (Lq10_0 K) (((),(),false,0,()),a0,a1,()))))
def Xq10:Tq10:=Yq10
def Jq10 (X:Tq10):Inst:=mkI 11 pL130 .nil pL9 .nil X
def Iq10:Inst:=Jq10 Xq10
theorem Eq10:EqF Tryz.prog 45 gives Tryz.f11 [] [Lq10_0p] (Jq10 (Yq10)):=fun x y K=>by kernel_rfl
theorem Iq10_ok:InstOk Tryz.prog G.1 Iq10:=iok (gives:=gives) [Lq10_0p] okNil 45 follows Tryz.func11 (by kernel_rfl) (fun x=>by kernel_rfl) (Eq10)
abbrev Tq0x:Type:=(Bool→Prop)→Prop
def Yq0x (xq0y:Tq0y) (xq23:Tq23) (xq2c:Tq2c) (xq10:Tq10) (K:Bool→Prop):Prop :=
 xq0y (fun r0 =>
 xq23 r0 (fun r1 r2 r3 r4 r5 =>
 xq23 (ByteArray.mk #[(50:UInt8),(50:UInt8),(55:UInt8),(50:UInt8),(48:UInt8),(54:UInt8),(48:UInt8),(56:UInt8),(48:UInt8),(48:UInt8),(32:UInt8),(49:UInt8),(48:UInt8),(10:UInt8),(50:UInt8),(50:UInt8),(56:UInt8),(55:UInt8),(55:UInt8),(56:UInt8),(53:UInt8),(54:UInt8),(48:UInt8),(48:UInt8),(32:UInt8),(49:UInt8),(50:UInt8),(10:UInt8)]) (fun r6 r7 r8 r9 r10 =>
 xq23 (ByteArray.mk #[(35:UInt8),(32:UInt8),(97:UInt8),(10:UInt8),(10:UInt8),(50:UInt8),(50:UInt8),(55:UInt8),(50:UInt8),(48:UInt8),(54:UInt8),(48:UInt8),(56:UInt8),(48:UInt8),(48:UInt8),(32:UInt8),(57:UInt8),(10:UInt8)]) (fun r11 r12 r13 r14 r15 =>
 xq23 (ByteArray.mk #[(35:UInt8),(10:UInt8)]) (fun r16 r17 r18 r19 r20 =>
 xq23 (ByteArray.mk #[(50:UInt8),(50:UInt8),(55:UInt8),(50:UInt8),(48:UInt8),(54:UInt8),(48:UInt8),(56:UInt8),(48:UInt8),(48:UInt8),(32:UInt8),(49:UInt8),(48:UInt8),(10:UInt8),(50:UInt8),(50:UInt8),(56:UInt8),(55:UInt8),(55:UInt8),(56:UInt8),(53:UInt8),(54:UInt8),(48:UInt8),(49:UInt8),(32:UInt8),(49:UInt8),(49:UInt8),(10:UInt8)]) (fun r21 r22 r23 r24 r25 =>
 xq0y (fun r26 =>
 (if (↑(ByteArray.size r26+(13:Nat)):Int) > 9223372036854775807 then
 False
 else
 (lt (r26++ByteArray.mk #[(35:UInt8),(104:UInt8),(32:UInt8),(49:UInt8),(32:UInt8),(50:UInt8),(32:UInt8),(51:UInt8),(32:UInt8),(52:UInt8),(32:UInt8),(53:UInt8),(10:UInt8)]) fun v27 =>
 xq23 v27 (fun r28 r29 r30 r31 r32 =>
 xq2c ([Eng.V.agg [Eng.V.c (Value.int IntKind.i64 911),Eng.V.c (Value.int IntKind.i64 1),Eng.V.c (Value.bool false)],Eng.V.agg [Eng.V.c (Value.int IntKind.i64 1095),Eng.V.c (Value.int IntKind.i64 1),Eng.V.c (Value.bool false)]],true,1498608000,()) 7 (fun r33 r34 =>
 xq23 r33 (fun r35 r36 r37 r38 r39 =>
 xq2c ([Eng.V.agg [Eng.V.c (Value.int IntKind.i64 911),Eng.V.c (Value.int IntKind.i64 1),Eng.V.c (Value.bool false)],Eng.V.agg [Eng.V.c (Value.int IntKind.i64 1095),Eng.V.c (Value.int IntKind.i64 1),Eng.V.c (Value.bool false)]],true,1498608000,()) (-1) (fun r40 r41 =>
 xq10 (r3,r1.2) ([Eng.V.agg [Eng.V.c (Value.int IntKind.i64 911),Eng.V.c (Value.int IntKind.i64 1),Eng.V.c (Value.bool false)],Eng.V.agg [Eng.V.c (Value.int IntKind.i64 1095),Eng.V.c (Value.int IntKind.i64 1),Eng.V.c (Value.bool false)]],true,1498608000,()) (fun r42 =>
 (if r42 then
 (if (r2.1 == 0 && (r2.2.1 == 0 && true)) then
 (if (r7.1 == 2 && (r7.2.1 == 6 && true)) then
 (if (r12.1 == 3 && (r12.2.1 == 9 && true)) then
 (if (r17.1 == 2 && (r17.2.1 == 2 && true)) then
 (if (r22.1 == 2 && (r22.2.1 == 5 && true)) then
 (if (r29.1 == 9 && (r29.2.1 == 3 && true)) then
 (if r34 then
 xq10 (r37,r35.2) ([Eng.V.agg [Eng.V.c (Value.int IntKind.i64 911),Eng.V.c (Value.int IntKind.i64 1),Eng.V.c (Value.bool false)],Eng.V.agg [Eng.V.c (Value.int IntKind.i64 1095),Eng.V.c (Value.int IntKind.i64 1),Eng.V.c (Value.bool false)]],true,1498608000,()) (fun r43 =>
 (if r43 then
 (if (r36.1 == 0 && (r36.2.1 == 0 && true)) then
 K !r41
 else
 K false)
 else
 K false))
 else
 K false)
 else
 K false)
 else
 K false)
 else
 K false)
 else
 K false)
 else
 K false)
 else
 K false)
 else
 K false)))))))))))))))
def Xq0x:Tq0x:=Yq0x Xq0y Xq23 Xq2c Xq10
def Jq0x (X:Tq0x):Inst:=mkI 5 .nil .nil pL9 .nil X
def Iq0x:Inst:=Jq0x Xq0x
theorem Eq0x (xq0y:Tq0y) (xq23:Tq23) (xq2c:Tq2c) (xq10:Tq10):EqF Tryz.prog 116 gives Tryz.f5 [Jq0y xq0y,Jq23 xq23,Jq2c xq2c,Jq10 xq10] [] (Jq0x (Yq0x xq0y xq23 xq2c xq10)):=fun x y K=>by kernel_rfl
theorem Iq0x_ok:InstOk Tryz.prog G.1 Iq0x:=iok (gives:=gives) [] (okCons Iq0y_ok (okCons Iq23_ok (okCons Iq2c_ok (okCons Iq10_ok okNil)))) 116 follows Tryz.func5 (by kernel_rfl) (fun x=>by kernel_rfl) (Eq0x Xq0y Xq23 Xq2c Xq10)
abbrev Tq1m:Type:=Q53→(Bool→Prop)→Prop
def Yq1m (a0:Q53) (K:Bool→Prop):Prop :=
 K (decide ((↑(List.length a0.1):Int)≤300))
def Xq1m:Tq1m:=Yq1m
def Jq1m (X:Tq1m):Inst:=mkI 6 pL57 .nil pL9 .nil X
def Iq1m:Inst:=Jq1m Xq1m
theorem Eq1m:EqF Tryz.prog 7 gives Tryz.f6 [] [] (Jq1m (Yq1m)):=fun x y K=>by kernel_rfl
theorem Iq1m_ok:InstOk Tryz.prog G.1 Iq1m:=iok (gives:=gives) [] okNil 7 follows Tryz.func6 (by kernel_rfl) (fun x=>by kernel_rfl) (Eq1m)
abbrev Tq0c:Type:=ByteArray→(ByteArray→Prop)→Prop
def Yq0c (a0:ByteArray) (K:ByteArray→Prop):Prop :=
 (if decide ((↑(ByteArray.size a0):Int) > 0) then
 (if 0≤w64 ((↑(ByteArray.size a0):Int) - 1)∧w64 ((↑(ByteArray.size a0):Int) - 1) < (↑(ByteArray.size a0):Int) then
 (if (Eng.bAt a0 (Int.toNat (w64 ((↑(ByteArray.size a0):Int) - 1))) == 13) then
 (if 0≤w64 ((↑(ByteArray.size a0):Int) - 1)∧w64 ((↑(ByteArray.size a0):Int) - 1)≤(↑(ByteArray.size a0):Int) then
 (if (0 :Int)≤0∧0≤w64 ((↑(ByteArray.size a0):Int) - 1) then
 (lt (ByteArray.extract a0 (0:Nat) (Int.toNat (w64 ((↑(ByteArray.size a0):Int) - 1)))) fun v1 =>
 K v1)
 else
 False)
 else
 False)
 else
 K a0)
 else
 False)
 else
 K a0)
def Xq0c:Tq0c:=Yq0c
def Jq0c (X:Tq0c):Inst:=mkI 97 pL0 .nil pL0 .nil X
def Iq0c:Inst:=Jq0c Xq0c
theorem Eq0c:EqF Tryz.prog 20 gives Tryz.f97 [] [] (Jq0c (Yq0c)):=fun x y K=>by kernel_rfl
theorem Iq0c_ok:InstOk Tryz.prog G.1 Iq0c:=iok (gives:=gives) [] okNil 20 follows Tryz.func97 (by kernel_rfl) (fun x=>by kernel_rfl) (Eq0c)
abbrev Tq0j:Type:=ByteArray→((List Eng.V)→Bool→Bool→Prop)→Prop
def Lq0j_0 (xq0c:Tq0c) (K:(List Eng.V)→Bool→Bool→Prop):(Q131→Prop)→Q131→Prop:=fun k1 x2 =>
 (if decide (x2.1.2.2.2.2.1 < (↑(ByteArray.size x2.1.1):Int)) then
 (if 0≤x2.1.2.2.2.2.1∧x2.1.2.2.2.2.1 < (↑(ByteArray.size x2.1.1):Int) then
 (if (Eng.bAt x2.1.1 (Int.toNat x2.1.2.2.2.2.1) == 10) then
 (if 0≤x2.1.2.2.2.2.1∧x2.1.2.2.2.2.1≤(↑(ByteArray.size x2.1.1):Int) then
 (if 0≤x2.1.2.2.2.1∧x2.1.2.2.2.1≤x2.1.2.2.2.2.1 then
 xq0c (ByteArray.extract x2.1.1 (Int.toNat x2.1.2.2.2.1) (Int.toNat x2.1.2.2.2.2.1)) (fun r3 =>
 (if Eng.roomOk (List.length x2.2.1+List.length [Eng.V.c (Value.string r3)]) (16:Nat) then
 k1 ((x2.1.1,(),(),w64 (x2.1.2.2.2.2.1+1),w64 (x2.1.2.2.2.2.1+1),()),x2.2.1++[Eng.V.c (Value.string r3)],())
 else
 False))
 else
 False)
 else
 False)
 else
 k1 ((x2.1.1,(),(),x2.1.2.2.2.1,w64 (x2.1.2.2.2.2.1+1),()),x2.2))
 else
 False)
 else
 (if decide (x2.1.2.2.2.1 < (↑(ByteArray.size x2.1.1):Int)) then
 (if 0≤(↑(ByteArray.size x2.1.1):Int)∧(↑(ByteArray.size x2.1.1):Int)≤(↑(ByteArray.size x2.1.1):Int) then
 (if 0≤x2.1.2.2.2.1∧x2.1.2.2.2.1≤(↑(ByteArray.size x2.1.1):Int) then
 xq0c (ByteArray.extract x2.1.1 (Int.toNat x2.1.2.2.2.1) (Int.toNat (↑(ByteArray.size x2.1.1):Int))) (fun r4 =>
 (if Eng.roomOk (List.length x2.2.1+List.length [Eng.V.c (Value.string r4)]) (16:Nat) then
 K (x2.2.1++[Eng.V.c (Value.string r4)]) true false
 else
 False))
 else
 False)
 else
 False)
 else
 K x2.2.1 true false))
def Lq0j_0p:Lp:=⟨61,[.trim 61,.fat 3 1 672,.trim 61],pT132,pH133,0⟩
def Yq0j (xq0c:Tq0c) (a0:ByteArray) (K:(List Eng.V)→Bool→Bool→Prop):Prop :=
 lp (Lq0j_0 xq0c K) ((a0,(),(),0,0,()),[],())
def Xq0j:Tq0j:=Yq0j Xq0c
def Jq0j (X:Tq0j):Inst:=mkI 60 pL0 .nil pL7 pH8 X
def Iq0j:Inst:=Jq0j Xq0j
theorem Eq0j (xq0c:Tq0c):EqF Tryz.prog 38 gives Tryz.f60 [Jq0c xq0c] [Lq0j_0p] (Jq0j (Yq0j xq0c)):=fun x y K=>by kernel_rfl
theorem Iq0j_ok:InstOk Tryz.prog G.1 Iq0j:=iok (gives:=gives) [Lq0j_0p] (okCons Iq0c_ok okNil) 38 follows Tryz.func60 (by kernel_rfl) (fun x=>by kernel_rfl) (Eq0j Xq0c)
abbrev Tq0s:Type:=Int→(Bool→Prop)→Prop
def Yq0s (a0:Int) (K:Bool→Prop):Prop :=
 (if (a0 == 32) then
 K true
 else
 K (a0 == 9))
def Xq0s:Tq0s:=Yq0s
def Jq0s (X:Tq0s):Inst:=mkI 103 pL134 .nil pL9 .nil X
def Iq0s:Inst:=Jq0s Xq0s
theorem Eq0s:EqF Tryz.prog 9 gives Tryz.f103 [] [] (Jq0s (Yq0s)):=fun x y K=>by kernel_rfl
theorem Iq0s_ok:InstOk Tryz.prog G.1 Iq0s:=iok (gives:=gives) [] okNil 9 follows Tryz.func103 (by kernel_rfl) (fun x=>by kernel_rfl) (Eq0s)
abbrev Tq0l:Type:=ByteArray→((List Eng.V)→Bool→Bool→Prop)→Prop
def Lq0l_1 (xq0s:Tq0s) (K:(List Eng.V)→Bool→Bool→Prop) (k1:Q135→Prop):(Q131→Prop)→Q131→Prop:=fun k4 x5 =>
 (if decide (x5.1.2.2.2.1 < (↑(ByteArray.size x5.1.1):Int)) then
 (if 0≤x5.1.2.2.2.1∧x5.1.2.2.2.1 < (↑(ByteArray.size x5.1.1):Int) then
 xq0s (Eng.bAt x5.1.1 (Int.toNat x5.1.2.2.2.1)) (fun r6 =>
 (if (!r6) then
 k4 ((x5.1.1,(),(),w64 (x5.1.2.2.2.1+1),x5.1.2.2.2.2),x5.2)
 else
 (if 0≤x5.1.2.2.2.1∧x5.1.2.2.2.1≤(↑(ByteArray.size x5.1.1):Int) then
 (if 0≤x5.1.2.2.2.2.1∧x5.1.2.2.2.2.1≤x5.1.2.2.2.1 then
 (if Eng.roomOk (List.length x5.2.1+List.length [Eng.V.c (Value.string (ByteArray.extract x5.1.1 (Int.toNat x5.1.2.2.2.2.1) (Int.toNat x5.1.2.2.2.1)))]) (16:Nat) then
 k1 ((x5.1.1,(),(),w64 (x5.1.2.2.2.1+1),()),x5.2.1++[Eng.V.c (Value.string (ByteArray.extract x5.1.1 (Int.toNat x5.1.2.2.2.2.1) (Int.toNat x5.1.2.2.2.1)))],())
 else
 False)
 else
 False)
 else
 False)))
 else
 False)
 else
 (if 0≤x5.1.2.2.2.1∧x5.1.2.2.2.1≤(↑(ByteArray.size x5.1.1):Int) then
 (if 0≤x5.1.2.2.2.2.1∧x5.1.2.2.2.2.1≤x5.1.2.2.2.1 then
 (if Eng.roomOk (List.length x5.2.1+List.length [Eng.V.c (Value.string (ByteArray.extract x5.1.1 (Int.toNat x5.1.2.2.2.2.1) (Int.toNat x5.1.2.2.2.1)))]) (16:Nat) then
 k1 ((x5.1.1,(),(),w64 (x5.1.2.2.2.1+1),()),x5.2.1++[Eng.V.c (Value.string (ByteArray.extract x5.1.1 (Int.toNat x5.1.2.2.2.2.1) (Int.toNat x5.1.2.2.2.1)))],())
 else
 False)
 else
 False)
 else
 False))
def Lq0l_1p:Lp:=⟨61,[.trim 61],pT132,pH133,0⟩
def Lq0l_0 (xq0s:Tq0s) (K:(List Eng.V)→Bool→Bool→Prop):(Q135→Prop)→Q135→Prop:=fun k1 x2 =>
 (if decide (x2.1.2.2.2.1 < (↑(ByteArray.size x2.1.1):Int)) then
 (if 0≤x2.1.2.2.2.1∧x2.1.2.2.2.1 < (↑(ByteArray.size x2.1.1):Int) then
 xq0s (Eng.bAt x2.1.1 (Int.toNat x2.1.2.2.2.1)) (fun r3 =>
 (if r3 then
 k1 ((x2.1.1,(),(),w64 (x2.1.2.2.2.1+1),()),x2.2)
 else
 lp (Lq0l_1 xq0s K k1) ((x2.1.1,(),(),x2.1.2.2.2.1,x2.1.2.2.2),x2.2)))
 else
 False)
 else
 K x2.2.1 true false)
def Lq0l_0p:Lp:=⟨29,[.trim 29,.fat 3 1 672,.trim 29],pT136,pH133,0⟩
def Yq0l (xq0s:Tq0s) (a0:ByteArray) (K:(List Eng.V)→Bool→Bool→Prop):Prop :=
 lp (Lq0l_0 xq0s K) ((a0,(),(),0,()),[],())
def Xq0l:Tq0l:=Yq0l Xq0s
def Jq0l (X:Tq0l):Inst:=mkI 65 pL0 .nil pL7 pH8 X
def Iq0l:Inst:=Jq0l Xq0l
theorem Eq0l (xq0s:Tq0s):EqF Tryz.prog 38 gives Tryz.f65 [Jq0s xq0s] [Lq0l_0p,Lq0l_1p] (Jq0l (Yq0l xq0s)):=fun x y K=>by kernel_rfl
theorem Iq0l_ok:InstOk Tryz.prog G.1 Iq0l:=iok (gives:=gives) [Lq0l_0p,Lq0l_1p] (okCons Iq0s_ok okNil) 38 follows Tryz.func65 (by kernel_rfl) (fun x=>by kernel_rfl) (Eq0l Xq0s)
abbrev Tq0e:Type:=ByteArray→ByteArray→(Bool→Prop)→Prop
def Yq0e (a0:ByteArray) (a1:ByteArray) (K:Bool→Prop):Prop :=
 (if decide ((↑(ByteArray.size a0):Int)≥(↑(ByteArray.size a1):Int)) then
 (if 0≤(↑(ByteArray.size a1):Int)∧(↑(ByteArray.size a1):Int)≤(↑(ByteArray.size a0):Int) then
 K (ByteArray.toList (ByteArray.extract a0 (0:Nat) (Int.toNat (↑(ByteArray.size a1):Int))) == ByteArray.toList a1)
 else
 False)
 else
 K false)
def Xq0e:Tq0e:=Yq0e
def Jq0e (X:Tq0e):Inst:=mkI 98 pL1 .nil pL9 .nil X
def Iq0e:Inst:=Jq0e Xq0e
theorem Eq0e:EqF Tryz.prog 18 gives Tryz.f98 [] [] (Jq0e (Yq0e)):=fun x y K=>by kernel_rfl
theorem Iq0e_ok:InstOk Tryz.prog G.1 Iq0e:=iok (gives:=gives) [] okNil 18 follows Tryz.func98 (by kernel_rfl) (fun x=>by kernel_rfl) (Eq0e)
abbrev Tq0n:Type:=Int→(Int→Prop)→Prop
def Yq0n (a0:Int) (K:Int→Prop):Prop :=
 (if decide (a0≥48) then
 (if decide (a0≤57) then
 K (w64 (wu8 (a0 - 48)))
 else
 (if decide (a0≥97) then
 (if decide (a0≤102) then
 (lt (w64 (w64 (wu8 (a0 - 97))+10)) fun v1 =>
 K v1)
 else
 (if decide (a0≥65) then
 (if decide (a0≤70) then
 (lt (w64 (w64 (wu8 (a0 - 65))+10)) fun v2 =>
 K v2)
 else
 K (-1))
 else
 K (-1)))
 else
 (if decide (a0≥65) then
 (if decide (a0≤70) then
 (lt (w64 (w64 (wu8 (a0 - 65))+10)) fun v3 =>
 K v3)
 else
 K (-1))
 else
 K (-1))))
 else
 (if decide (a0≥97) then
 (if decide (a0≤102) then
 (lt (w64 (w64 (wu8 (a0 - 97))+10)) fun v4 =>
 K v4)
 else
 (if decide (a0≥65) then
 (if decide (a0≤70) then
 (lt (w64 (w64 (wu8 (a0 - 65))+10)) fun v5 =>
 K v5)
 else
 K (-1))
 else
 K (-1)))
 else
 (if decide (a0≥65) then
 (if decide (a0≤70) then
 (lt (w64 (w64 (wu8 (a0 - 65))+10)) fun v6 =>
 K v6)
 else
 K (-1))
 else
 K (-1))))
def Xq0n:Tq0n:=Yq0n
def Jq0n (X:Tq0n):Inst:=mkI 104 pL134 .nil pL2 .nil X
def Iq0n:Inst:=Jq0n Xq0n
theorem Eq0n:EqF Tryz.prog 32 gives Tryz.f104 [] [] (Jq0n (Yq0n)):=fun x y K=>by kernel_rfl
theorem Iq0n_ok:InstOk Tryz.prog G.1 Iq0n:=iok (gives:=gives) [] okNil 32 follows Tryz.func104 (by kernel_rfl) (fun x=>by kernel_rfl) (Eq0n)
abbrev Tq13:Type:=ByteArray→(Int→Bool→Prop)→Prop
def Lq13_0 (xq0n:Tq0n) (K:Int→Bool→Prop):(Q137→Prop)→Q137→Prop:=fun k1 x2 =>
 (if decide (x2.1.2.2.2.2.1 < (↑(ByteArray.size x2.1.1):Int)) then
 (if 0≤x2.1.2.2.2.2.1∧x2.1.2.2.2.2.1 < (↑(ByteArray.size x2.1.1):Int) then
 xq0n (Eng.bAt x2.1.1 (Int.toNat x2.1.2.2.2.2.1)) (fun r3 =>
 (if decide (r3 < 0) then
 K 0 false
 else
 (lt (wu32 (↑(BitVec.toNat (BitVec.ofInt (32:Nat) (wu32 (x2.1.2.2.2.1 * 16)) ||| BitVec.ofInt (32:Nat) (wu32 r3))):Int)) fun v4 =>
 k1 ((x2.1.1,x2.1.2.1,x2.1.2.2.1,v4,w64 (x2.1.2.2.2.2.1+1),()),()))))
 else
 False)
 else
 K x2.1.2.2.2.1 true)
def Lq13_0p:Lp:=⟨61,[.trim 61],pT138,.nil,0⟩
def Yq13 (xq0n:Tq0n) (a0:ByteArray) (K:Int→Bool→Prop):Prop :=
 (if decide ((↑(ByteArray.size a0):Int) < 1) then
 K 0 false
 else
 (if decide ((↑(ByteArray.size a0):Int) > 8) then
 K 0 false
 else
 lp (Lq13_0 xq0n K) ((a0,0,false,0,0,()),())))
def Xq13:Tq13:=Yq13 Xq0n
def Jq13 (X:Tq13):Inst:=mkI 66 pL0 .nil pL33 .nil X
def Iq13:Inst:=Jq13 Xq13
theorem Eq13 (xq0n:Tq0n):EqF Tryz.prog 33 gives Tryz.f66 [Jq0n xq0n] [Lq13_0p] (Jq13 (Yq13 xq0n)):=fun x y K=>by kernel_rfl
theorem Iq13_ok:InstOk Tryz.prog G.1 Iq13:=iok (gives:=gives) [Lq13_0p] (okCons Iq0n_ok okNil) 33 follows Tryz.func66 (by kernel_rfl) (fun x=>by kernel_rfl) (Eq13 Xq0n)
abbrev Tq1g:Type:=ByteArray→(Q37→Bool→Prop)→Prop
def Lq1g_0 (xq13:Tq13) (K:Q37→Bool→Prop):(Q139→Prop)→Q139→Prop:=fun k4 x5 =>
 (if decide (x5.1.2.2.2.2.1 < 5) then
 (if 0≤x5.1.2.2.2.2.1∧x5.1.2.2.2.2.1 < (↑(List.length x5.2.2.2.1.1):Int) then
 (Eng.asStr (Eng.getC x5.2.2.2.1.1 (Int.toNat x5.1.2.2.2.2.1) (0:Nat)) False fun t6 =>
 xq13 t6 (fun r7 r8 =>
 (if (!r8) then
 (if (0:Nat) < List.length x5.2.1 then
 (lt (List.set x5.2.1 (0:Nat) (Eng.setE (List.getD x5.2.1 (0:Nat) Eng.V.bad) (0:Nat) [Eng.V.c (Value.int IntKind.u32 0),Eng.V.c (Value.int IntKind.u32 0),Eng.V.c (Value.int IntKind.u32 0),Eng.V.c (Value.int IntKind.u32 0),Eng.V.c (Value.int IntKind.u32 0)])) fun v9 =>
 (Eng.asInt IntKind.u32 (Eng.getC v9 (0:Nat) (0:Nat)) False fun n10 =>
 (Eng.asInt IntKind.u32 (Eng.getC v9 (0:Nat) (1:Nat)) False fun n11 =>
 (Eng.asInt IntKind.u32 (Eng.getC v9 (0:Nat) (2:Nat)) False fun n12 =>
 (Eng.asInt IntKind.u32 (Eng.getC v9 (0:Nat) (3:Nat)) False fun n13 =>
 (Eng.asInt IntKind.u32 (Eng.getC v9 (0:Nat) (4:Nat)) False fun n14 =>
 K (n10,n11,n12,n13,n14,()) false))))))
 else
 False)
 else
 (if 0≤x5.1.2.2.2.2.1∧x5.1.2.2.2.2.1 < 5 then
 (if (0:Nat) < List.length x5.2.2.1 then
 (if (0:Nat)+Int.toNat x5.1.2.2.2.2.1 * (1:Nat)+List.length [Eng.V.c (Value.int IntKind.u32 r7)]≤(5:Nat) then
 (lt (List.set x5.2.2.1 (0:Nat) (Eng.setE (List.getD x5.2.2.1 (0:Nat) Eng.V.bad) ((0:Nat)+Int.toNat x5.1.2.2.2.2.1 * (1:Nat)) [Eng.V.c (Value.int IntKind.u32 r7)])) fun v15 =>
 k4 (((),x5.1.2.1,(),(),w64 (x5.1.2.2.2.2.1+1),()),x5.2.1,v15,x5.2.2.2))
 else
 False)
 else
 False)
 else
 False))))
 else
 False)
 else
 (Eng.asInt IntKind.u32 (Eng.getC x5.2.2.1 (0:Nat) (0:Nat)) False fun n16 =>
 (Eng.asInt IntKind.u32 (Eng.getC x5.2.2.1 (0:Nat) (1:Nat)) False fun n17 =>
 (Eng.asInt IntKind.u32 (Eng.getC x5.2.2.1 (0:Nat) (2:Nat)) False fun n18 =>
 (Eng.asInt IntKind.u32 (Eng.getC x5.2.2.1 (0:Nat) (3:Nat)) False fun n19 =>
 (Eng.asInt IntKind.u32 (Eng.getC x5.2.2.1 (0:Nat) (4:Nat)) False fun n20 =>
 (if (0:Nat) < List.length x5.2.1 then
 (lt (List.set x5.2.1 (0:Nat) (Eng.setE (List.getD x5.2.1 (0:Nat) Eng.V.bad) (0:Nat) [Eng.V.c (Value.int IntKind.u32 n16),Eng.V.c (Value.int IntKind.u32 n17),Eng.V.c (Value.int IntKind.u32 n18),Eng.V.c (Value.int IntKind.u32 n19),Eng.V.c (Value.int IntKind.u32 n20)])) fun v21 =>
 (Eng.asInt IntKind.u32 (Eng.getC v21 (0:Nat) (0:Nat)) False fun n22 =>
 (Eng.asInt IntKind.u32 (Eng.getC v21 (0:Nat) (1:Nat)) False fun n23 =>
 (Eng.asInt IntKind.u32 (Eng.getC v21 (0:Nat) (2:Nat)) False fun n24 =>
 (Eng.asInt IntKind.u32 (Eng.getC v21 (0:Nat) (3:Nat)) False fun n25 =>
 (Eng.asInt IntKind.u32 (Eng.getC v21 (0:Nat) (4:Nat)) False fun n26 =>
 K (n22,n23,n24,n25,n26,()) true))))))
 else
 False)))))))
def Lq1g_0p:Lp:=⟨124,[.trim 124],pT140,pH141,0⟩
def Yq1g (xq0l:Tq0l) (xq13:Tq13) (a0:ByteArray) (K:Q37→Bool→Prop):Prop :=
 xq0l a0 (fun r1 r2 r3 =>
 (if ((↑(List.length r1):Int) != 5) then
 K (0,0,0,0,0,()) false
 else
 lp (Lq1g_0 xq13 K) (((),false,(),(),0,()),[Eng.V.agg [Eng.V.c (Value.int IntKind.u32 0),Eng.V.c (Value.int IntKind.u32 0),Eng.V.c (Value.int IntKind.u32 0),Eng.V.c (Value.int IntKind.u32 0),Eng.V.c (Value.int IntKind.u32 0)]],[Eng.V.agg [Eng.V.c (Value.int IntKind.u32 0),Eng.V.c (Value.int IntKind.u32 0),Eng.V.c (Value.int IntKind.u32 0),Eng.V.c (Value.int IntKind.u32 0),Eng.V.c (Value.int IntKind.u32 0)]],(r1,r2,r3),())))
def Xq1g:Tq1g:=Yq1g Xq0l Xq13
def Jq1g (X:Tq1g):Inst:=mkI 32 pL0 .nil pL41 .nil X
def Iq1g:Inst:=Jq1g Xq1g
theorem Eq1g (xq0l:Tq0l) (xq13:Tq13):EqF Tryz.prog 34 gives Tryz.f32 [Jq0l xq0l,Jq13 xq13] [Lq1g_0p] (Jq1g (Yq1g xq0l xq13)):=fun x y K=>by kernel_rfl
theorem Iq1g_ok:InstOk Tryz.prog G.1 Iq1g:=iok (gives:=gives) [Lq1g_0p] (okCons Iq0l_ok (okCons Iq13_ok okNil)) 34 follows Tryz.func32 (by kernel_rfl) (fun x=>by kernel_rfl) (Eq1g Xq0l Xq13)
abbrev Tq0g:Type:=ByteArray→(Int→Bool→Prop)→Prop
def Lq0g_0 (K:Int→Bool→Prop):(Q137→Prop)→Q137→Prop:=fun k1 x2 =>
 (if decide (x2.1.2.2.2.2.1 < (↑(ByteArray.size x2.1.1):Int)) then
 (if 0≤x2.1.2.2.2.2.1∧x2.1.2.2.2.2.1 < (↑(ByteArray.size x2.1.1):Int) then
 (lt (w64 (w64 (Eng.bAt x2.1.1 (Int.toNat x2.1.2.2.2.2.1)) - 48)) fun v3 =>
 (if decide (v3 < 0) then
 K 0 false
 else
 (if decide (v3 > 9) then
 K 0 false
 else
 (lt (w64 (Int.tdiv (w64 (9223372036854775807 - v3)) 10)) fun v4 =>
 (if decide (x2.1.2.2.2.1 > v4) then
 K 0 false
 else
 (lt (w64 (w64 (10 * x2.1.2.2.2.1)+v3)) fun v5 =>
 k1 ((x2.1.1,x2.1.2.1,x2.1.2.2.1,v5,w64 (x2.1.2.2.2.2.1+1),()),())))))))
 else
 False)
 else
 K x2.1.2.2.2.1 (!ByteArray.toList x2.1.1 == ByteArray.toList (ByteArray.mk #[])))
def Lq0g_0p:Lp:=⟨61,[.trim 61],pT142,.nil,0⟩
def Yq0g (a0:ByteArray) (K:Int→Bool→Prop):Prop :=
 lp (Lq0g_0 K) ((a0,0,false,0,0,()),())
def Xq0g:Tq0g:=Yq0g
def Jq0g (X:Tq0g):Inst:=mkI 99 pL0 .nil pL21 .nil X
def Iq0g:Inst:=Jq0g Xq0g
theorem Eq0g:EqF Tryz.prog 38 gives Tryz.f99 [] [Lq0g_0p] (Jq0g (Yq0g)):=fun x y K=>by kernel_rfl
theorem Iq0g_ok:InstOk Tryz.prog G.1 Iq0g:=iok (gives:=gives) [Lq0g_0p] okNil 38 follows Tryz.func99 (by kernel_rfl) (fun x=>by kernel_rfl) (Eq0g)
abbrev Tq1n:Type:=ByteArray→ByteArray→(ByteArray→ByteArray→Bool→Prop)→Prop
def Lq1n_0 (K:ByteArray→ByteArray→Bool→Prop):(Q143→Prop)→Q143→Prop:=fun k2 x3 =>
 (if decide (w64 (x3.1.2.2.2.2.2.1+(↑(ByteArray.size x3.1.2.1):Int))≤(↑(ByteArray.size x3.1.1):Int)) then
 (if (!ByteArray.toList x3.1.2.1 == ByteArray.toList (ByteArray.mk #[])) then
 (if 0≤w64 (x3.1.2.2.2.2.2.1+(↑(ByteArray.size x3.1.2.1):Int))∧w64 (x3.1.2.2.2.2.2.1+(↑(ByteArray.size x3.1.2.1):Int))≤(↑(ByteArray.size x3.1.1):Int) then
 (if 0≤x3.1.2.2.2.2.2.1∧x3.1.2.2.2.2.2.1≤w64 (x3.1.2.2.2.2.2.1+(↑(ByteArray.size x3.1.2.1):Int)) then
 (lt (ByteArray.extract x3.1.1 (Int.toNat x3.1.2.2.2.2.2.1) (Int.toNat (w64 (x3.1.2.2.2.2.2.1+(↑(ByteArray.size x3.1.2.1):Int))))) fun v4 =>
 (if (ByteArray.toList v4 == ByteArray.toList x3.1.2.1) then
 (if 0≤x3.1.2.2.2.2.2.1∧x3.1.2.2.2.2.2.1≤(↑(ByteArray.size x3.1.1):Int) then
 (if (0 :Int)≤0∧0≤x3.1.2.2.2.2.2.1 then
 (if 0≤(↑(ByteArray.size x3.1.1):Int)∧(↑(ByteArray.size x3.1.1):Int)≤(↑(ByteArray.size x3.1.1):Int) then
 (if 0≤w64 (x3.1.2.2.2.2.2.1+(↑(ByteArray.size x3.1.2.1):Int))∧w64 (x3.1.2.2.2.2.2.1+(↑(ByteArray.size x3.1.2.1):Int))≤(↑(ByteArray.size x3.1.1):Int) then
 (lt (ByteArray.extract x3.1.1 (Int.toNat (w64 (x3.1.2.2.2.2.2.1+(↑(ByteArray.size x3.1.2.1):Int)))) (Int.toNat (↑(ByteArray.size x3.1.1):Int))) fun v5 =>
 K (ByteArray.extract x3.1.1 (0:Nat) (Int.toNat x3.1.2.2.2.2.2.1)) v5 true)
 else
 False)
 else
 False)
 else
 False)
 else
 False)
 else
 k2 ((x3.1.1,x3.1.2.1,x3.1.2.2.1,x3.1.2.2.2.1,x3.1.2.2.2.2.1,w64 (x3.1.2.2.2.2.2.1+1),()),())))
 else
 False)
 else
 False)
 else
 K x3.1.1 (ByteArray.mk #[]) false)
 else
 K x3.1.1 (ByteArray.mk #[]) false)
def Lq1n_0p:Lp:=⟨243,[.trim 243],pT144,.nil,0⟩
def Yq1n (a0:ByteArray) (a1:ByteArray) (K:ByteArray→ByteArray→Bool→Prop):Prop :=
 lp (Lq1n_0 K) ((a0,a1,ByteArray.mk #[],ByteArray.mk #[],false,0,()),())
def Xq1n:Tq1n:=Yq1n
def Jq1n (X:Tq1n):Inst:=mkI 125 pL1 .nil pL42 .nil X
def Iq1n:Inst:=Jq1n Xq1n
theorem Eq1n:EqF Tryz.prog 40 gives Tryz.f125 [] [Lq1n_0p] (Jq1n (Yq1n)):=fun x y K=>by kernel_rfl
theorem Iq1n_ok:InstOk Tryz.prog G.1 Iq1n:=iok (gives:=gives) [Lq1n_0p] okNil 40 follows Tryz.func125 (by kernel_rfl) (fun x=>by kernel_rfl) (Eq1n)
abbrev Tq0p:Type:=ByteArray→(ByteArray→Prop)→Prop
def Yq0p (xq1n:Tq1n) (a0:ByteArray) (K:ByteArray→Prop):Prop :=
 xq1n a0 (ByteArray.mk #[(35:UInt8)]) (fun r1 r2 r3 =>
 K r1)
def Xq0p:Tq0p:=Yq0p Xq1n
def Jq0p (X:Tq0p):Inst:=mkI 100 pL0 .nil pL0 .nil X
def Iq0p:Inst:=Jq0p Xq0p
theorem Eq0p (xq1n:Tq1n):EqF Tryz.prog 13 gives Tryz.f100 [Jq1n xq1n] [] (Jq0p (Yq0p xq1n)):=fun x y K=>by kernel_rfl
theorem Iq0p_ok:InstOk Tryz.prog G.1 Iq0p:=iok (gives:=gives) [] (okCons Iq1n_ok okNil) 13 follows Tryz.func100 (by kernel_rfl) (fun x=>by kernel_rfl) (Eq0p Xq1n)
abbrev Tq11:Type:=ByteArray→(Q145→(List Eng.V)→Bool→Bool→Prop)→Prop
def Yq11 (xq0l:Tq0l) (xq0e:Tq0e) (xq1g:Tq1g) (xq0g:Tq0g) (xq0p:Tq0p) (a0:ByteArray) (K:Q145→(List Eng.V)→Bool→Bool→Prop):Prop :=
 xq0l a0 (fun r1 r2 r3 =>
 (if ((↑(List.length r1):Int) == 0) then
 K (0,true,(),0,0,()) [] true true
 else
 xq0e a0 (ByteArray.mk #[(35:UInt8),(104:UInt8)]) (fun r4 =>
 (if r4 then
 (if 0≤(↑(ByteArray.size a0):Int)∧(↑(ByteArray.size a0):Int)≤(↑(ByteArray.size a0):Int) then
 (if (0 :Int)≤2∧2≤(↑(ByteArray.size a0):Int) then
 xq1g (ByteArray.extract a0 (2:Nat) (Int.toNat (↑(ByteArray.size a0):Int))) (fun r5 r6 =>
 (if 0≤(↑(ByteArray.size a0):Int)∧(↑(ByteArray.size a0):Int)≤(↑(ByteArray.size a0):Int) then
 (if (0 :Int)≤2∧2≤(↑(ByteArray.size a0):Int) then
 K (3,r6,(),0,0,()) ([Eng.V.c (Value.string (ByteArray.extract a0 (2:Nat) (Int.toNat (↑(ByteArray.size a0):Int))))]) true false
 else
 False)
 else
 False))
 else
 False)
 else
 False)
 else
 xq0e a0 (ByteArray.mk #[(35:UInt8),(36:UInt8)]) (fun r7 =>
 (if r7 then
 (if (0 :Int)≤1∧1 < (↑(ByteArray.size a0):Int) then
 (if (Eng.bAt a0 (1:Nat) == 64) then
 (if 0≤(↑(ByteArray.size a0):Int)∧(↑(ByteArray.size a0):Int)≤(↑(ByteArray.size a0):Int) then
 (if (0 :Int)≤2∧2≤(↑(ByteArray.size a0):Int) then
 xq0l (ByteArray.extract a0 (2:Nat) (Int.toNat (↑(ByteArray.size a0):Int))) (fun r8 r9 r10 =>
 (if ((↑(List.length r8):Int) != 1) then
 K (2,false,(),0,0,()) [] true true
 else
 (if (0 :Int)≤0∧0 < (↑(List.length r8):Int) then
 (Eng.asStr (Eng.getC r8 (0:Nat) (0:Nat)) False fun t11 =>
 xq0g t11 (fun r12 r13 =>
 K (2,r13,(),r12,0,()) r8 r9 r10))
 else
 False)))
 else
 False)
 else
 False)
 else
 (if 0≤(↑(ByteArray.size a0):Int)∧(↑(ByteArray.size a0):Int)≤(↑(ByteArray.size a0):Int) then
 (if (0 :Int)≤2∧2≤(↑(ByteArray.size a0):Int) then
 xq0l (ByteArray.extract a0 (2:Nat) (Int.toNat (↑(ByteArray.size a0):Int))) (fun r14 r15 r16 =>
 (if ((↑(List.length r14):Int) != 1) then
 K (1,false,(),0,0,()) [] true true
 else
 (if (0 :Int)≤0∧0 < (↑(List.length r14):Int) then
 (Eng.asStr (Eng.getC r14 (0:Nat) (0:Nat)) False fun t17 =>
 xq0g t17 (fun r18 r19 =>
 K (1,r19,(),r18,0,()) r14 r15 r16))
 else
 False)))
 else
 False)
 else
 False))
 else
 False)
 else
 xq0e a0 (ByteArray.mk #[(35:UInt8),(64:UInt8)]) (fun r20 =>
 (if r20 then
 (if (0 :Int)≤1∧1 < (↑(ByteArray.size a0):Int) then
 (if (Eng.bAt a0 (1:Nat) == 64) then
 (if 0≤(↑(ByteArray.size a0):Int)∧(↑(ByteArray.size a0):Int)≤(↑(ByteArray.size a0):Int) then
 (if (0 :Int)≤2∧2≤(↑(ByteArray.size a0):Int) then
 xq0l (ByteArray.extract a0 (2:Nat) (Int.toNat (↑(ByteArray.size a0):Int))) (fun r21 r22 r23 =>
 (if ((↑(List.length r21):Int) != 1) then
 K (2,false,(),0,0,()) [] true true
 else
 (if (0 :Int)≤0∧0 < (↑(List.length r21):Int) then
 (Eng.asStr (Eng.getC r21 (0:Nat) (0:Nat)) False fun t24 =>
 xq0g t24 (fun r25 r26 =>
 K (2,r26,(),r25,0,()) r21 r22 r23))
 else
 False)))
 else
 False)
 else
 False)
 else
 (if 0≤(↑(ByteArray.size a0):Int)∧(↑(ByteArray.size a0):Int)≤(↑(ByteArray.size a0):Int) then
 (if (0 :Int)≤2∧2≤(↑(ByteArray.size a0):Int) then
 xq0l (ByteArray.extract a0 (2:Nat) (Int.toNat (↑(ByteArray.size a0):Int))) (fun r27 r28 r29 =>
 (if ((↑(List.length r27):Int) != 1) then
 K (1,false,(),0,0,()) [] true true
 else
 (if (0 :Int)≤0∧0 < (↑(List.length r27):Int) then
 (Eng.asStr (Eng.getC r27 (0:Nat) (0:Nat)) False fun t30 =>
 xq0g t30 (fun r31 r32 =>
 K (1,r32,(),r31,0,()) r27 r28 r29))
 else
 False)))
 else
 False)
 else
 False))
 else
 False)
 else
 (if (0 :Int)≤0∧0 < (↑(List.length r1):Int) then
 (Eng.asStr (Eng.getC r1 (0:Nat) (0:Nat)) False fun t33 =>
 xq0e t33 (ByteArray.mk #[(35:UInt8)]) (fun r34 =>
 (if r34 then
 K (4,true,(),0,0,()) [] true true
 else
 xq0p a0 (fun r35 =>
 xq0l r35 (fun r36 r37 r38 =>
 (if ((↑(List.length r36):Int) != 2) then
 K (5,false,(),0,0,()) [] true true
 else
 (if (0 :Int)≤0∧0 < (↑(List.length r36):Int) then
 (Eng.asStr (Eng.getC r36 (0:Nat) (0:Nat)) False fun t39 =>
 xq0g t39 (fun r40 r41 =>
 (if (0 :Int)≤1∧1 < (↑(List.length r36):Int) then
 (Eng.asStr (Eng.getC r36 (1:Nat) (0:Nat)) False fun t42 =>
 xq0g t42 (fun r43 r44 =>
 (if r41 then
 K (5,r44,(),r40,r43,()) r36 r37 r38
 else
 K (5,false,(),r40,r43,()) r36 r37 r38)))
 else
 False)))
 else
 False)))))))
 else
 False)))))))))
def Xq11:Tq11:=Yq11 Xq0l Xq0e Xq1g Xq0g Xq0p
def Jq11 (X:Tq11):Inst:=mkI 61 pL0 .nil pL146 pH8 X
def Iq11:Inst:=Jq11 Xq11
theorem Eq11 (xq0l:Tq0l) (xq0e:Tq0e) (xq1g:Tq1g) (xq0g:Tq0g) (xq0p:Tq0p):EqF Tryz.prog 95 gives Tryz.f61 [Jq0l xq0l,Jq0e xq0e,Jq1g xq1g,Jq0g xq0g,Jq0p xq0p] [] (Jq11 (Yq11 xq0l xq0e xq1g xq0g xq0p)):=fun x y K=>by kernel_rfl
theorem Iq11_ok:InstOk Tryz.prog G.1 Iq11:=iok (gives:=gives) [] (okCons Iq0l_ok (okCons Iq0e_ok (okCons Iq1g_ok (okCons Iq0g_ok (okCons Iq0p_ok okNil))))) 95 follows Tryz.func61 (by kernel_rfl) (fun x=>by kernel_rfl) (Eq11 Xq0l Xq0e Xq1g Xq0g Xq0p)
abbrev Tq14:Type:=ByteArray→((List Eng.V)→Bool→Bool→Prop)→Prop
def Lq14_0 (xq11:Tq11) (K:(List Eng.V)→Bool→Bool→Prop):(Q147→Prop)→Q147→Prop:=fun k4 x5 =>
 (if decide (x5.1.2.2.2.1 < (↑(List.length x5.2.1.1):Int)) then
 (if 0≤x5.1.2.2.2.1∧x5.1.2.2.2.1 < (↑(List.length x5.2.1.1):Int) then
 (Eng.asStr (Eng.getC x5.2.1.1 (Int.toNat x5.1.2.2.2.1) (0:Nat)) False fun t6 =>
 xq11 t6 (fun r7 r8 r9 r10 =>
 (if Eng.roomOk (List.length x5.2.2.1+List.length [Eng.V.agg [Eng.V.c (Value.int IntKind.i64 r7.1),Eng.V.c (Value.bool r7.2.1),Eng.V.sl (1:Nat) false r8,Eng.V.c (Value.int IntKind.i64 r7.2.2.2.1),Eng.V.c (Value.int IntKind.i64 r7.2.2.2.2.1)]]) (56:Nat) then
 (lt (x5.2.2.1++[Eng.V.agg [Eng.V.c (Value.int IntKind.i64 r7.1),Eng.V.c (Value.bool r7.2.1),Eng.V.sl (1:Nat) false r8,Eng.V.c (Value.int IntKind.i64 r7.2.2.2.1),Eng.V.c (Value.int IntKind.i64 r7.2.2.2.2.1)]]) fun v11 =>
 k4 (((),(),(),w64 (x5.1.2.2.2.1+1),()),x5.2.1,v11,()))
 else
 False)))
 else
 False)
 else
 K x5.2.2.1 true false)
def Lq14_0p:Lp:=⟨60,[.trim 60,.fat 3 5 432,.trim 60],pT148,pH149,0⟩
def Yq14 (xq0j:Tq0j) (xq11:Tq11) (a0:ByteArray) (K:(List Eng.V)→Bool→Bool→Prop):Prop :=
 xq0j a0 (fun r1 r2 r3 =>
 lp (Lq14_0 xq11 K) (((),(),(),0,()),(r1,r2,r3),[],()))
def Xq14:Tq14:=Yq14 Xq0j Xq11
def Jq14 (X:Tq14):Inst:=mkI 27 pL0 .nil pL7 pH150 X
def Iq14:Inst:=Jq14 Xq14
theorem Eq14 (xq0j:Tq0j) (xq11:Tq11):EqF Tryz.prog 23 gives Tryz.f27 [Jq0j xq0j,Jq11 xq11] [Lq14_0p] (Jq14 (Yq14 xq0j xq11)):=fun x y K=>by kernel_rfl
theorem Iq14_ok:InstOk Tryz.prog G.1 Iq14:=iok (gives:=gives) [Lq14_0p] (okCons Iq0j_ok (okCons Iq11_ok okNil)) 23 follows Tryz.func27 (by kernel_rfl) (fun x=>by kernel_rfl) (Eq14 Xq0j Xq11)
abbrev Tq15:Type:=(List Eng.V)→Int→(Int→Prop)→Prop
def Lq15_0 (K:Int→Prop):(Q151→Prop)→Q151→Prop:=fun k2 x3 =>
 (if decide (x3.1.2.2.2.1 < (↑(List.length x3.1.1):Int)) then
 (if 0≤x3.1.2.2.2.1∧x3.1.2.2.2.1 < (↑(List.length x3.1.1):Int) then
 (Eng.asInt IntKind.i64 (Eng.getC x3.1.1 (Int.toNat x3.1.2.2.2.1) (0:Nat)) False fun n4 =>
 (if (n4 == x3.1.2.1) then
 K x3.1.2.2.2.1
 else
 k2 ((x3.1.1,x3.1.2.1,x3.1.2.2.1,w64 (x3.1.2.2.2.1+1),()),())))
 else
 False)
 else
 K (-1))
def Lq15_0p:Lp:=⟨51,[.trim 51],pT152,.nil,0⟩
def Yq15 (a0:(List Eng.V)) (a1:Int) (K:Int→Prop):Prop :=
 lp (Lq15_0 K) ((a0,a1,0,0,()),())
def Xq15:Tq15:=Yq15
def Jq15 (X:Tq15):Inst:=mkI 28 pL153 .nil pL2 .nil X
def Iq15:Inst:=Jq15 Xq15
theorem Eq15:EqF Tryz.prog 20 gives Tryz.f28 [] [Lq15_0p] (Jq15 (Yq15)):=fun x y K=>by kernel_rfl
theorem Iq15_ok:InstOk Tryz.prog G.1 Iq15:=iok (gives:=gives) [Lq15_0p] okNil 20 follows Tryz.func28 (by kernel_rfl) (fun x=>by kernel_rfl) (Eq15)
abbrev Tq0q:Type:=Int→(Int→Bool→Prop)→Prop
def Yq0q (a0:Int) (K:Int→Bool→Prop):Prop :=
 (if decide (a0 < 0) then
 K 0 false
 else
 K (w64 (a0 - 2208988800)) true)
def Xq0q:Tq0q:=Yq0q
def Jq0q (X:Tq0q):Inst:=mkI 29 pL2 .nil pL21 .nil X
def Iq0q:Inst:=Jq0q Xq0q
theorem Eq0q:EqF Tryz.prog 8 gives Tryz.f29 [] [] (Jq0q (Yq0q)):=fun x y K=>by kernel_rfl
theorem Iq0q_ok:InstOk Tryz.prog G.1 Iq0q:=iok (gives:=gives) [] okNil 8 follows Tryz.func29 (by kernel_rfl) (fun x=>by kernel_rfl) (Eq0q)
abbrev Tq1r:Type:=Int→Int→(Int→Int→Bool→Prop)→Prop
def Yq1r (a0:Int) (a1:Int) (K:Int→Int→Bool→Prop):Prop :=
 (if decide (a1 < 1) then
 K 0 0 false
 else
 (if a1=0 then
 False
 else
 (if a1=0 then
 False
 else
 (if decide (Int.tmod a0 a1 < 0) then
 (lt (w64 (w64 (Int.tdiv a0 a1) - 1)) fun v2 =>
 K v2 (w64 (Int.tmod a0 a1+a1)) true)
 else
 K (w64 (Int.tdiv a0 a1)) (Int.tmod a0 a1) true))))
def Xq1r:Tq1r:=Yq1r
def Jq1r (X:Tq1r):Inst:=mkI 62 pL20 .nil pL47 .nil X
def Iq1r:Inst:=Jq1r Xq1r
theorem Eq1r:EqF Tryz.prog 26 gives Tryz.f62 [] [] (Jq1r (Yq1r)):=fun x y K=>by kernel_rfl
theorem Iq1r_ok:InstOk Tryz.prog G.1 Iq1r:=iok (gives:=gives) [] okNil 26 follows Tryz.func62 (by kernel_rfl) (fun x=>by kernel_rfl) (Eq1r)
abbrev Tq17:Type:=Q53→(Q58→(List Eng.V)→Bool→Bool→Prop)→Prop
def Yq17 (a0:Q53) (K:Q58→(List Eng.V)→Bool→Bool→Prop):Prop :=
 (if Eng.roomOk ((0:Nat)+List.length a0.1) (24:Nat) then
 K ((),a0.2) ([]++a0.1) true false
 else
 False)
def Xq17:Tq17:=Yq17
def Jq17 (X:Tq17):Inst:=mkI 101 pL57 .nil pL154 pH49 X
def Iq17:Inst:=Jq17 Xq17
theorem Eq17:EqF Tryz.prog 9 gives Tryz.f101 [] [] (Jq17 (Yq17)):=fun x y K=>by kernel_rfl
theorem Iq17_ok:InstOk Tryz.prog G.1 Iq17:=iok (gives:=gives) [] okNil 9 follows Tryz.func101 (by kernel_rfl) (fun x=>by kernel_rfl) (Eq17)
abbrev Tq0r:Type:=Int→(Int→Prop)→Prop
def Yq0r (a0:Int) (K:Int→Prop):Prop :=
 (lt (w64 (365 * w64 (a0 - 1))) fun v1 =>
 (lt (w64 (Int.tdiv (w64 (a0 - 1)) 4)) fun v2 =>
 (lt (w64 (Int.tdiv (w64 (a0 - 1)) 100)) fun v3 =>
 (lt (w64 (w64 (v1+v2) - v3)) fun v4 =>
 (lt (w64 (Int.tdiv (w64 (a0 - 1)) 400)) fun v5 =>
 (lt (w64 (w64 (v4+v5)+(-719162))) fun v6 =>
 K v6))))))
def Xq0r:Tq0r:=Yq0r
def Jq0r (X:Tq0r):Inst:=mkI 153 pL2 .nil pL2 .nil X
def Iq0r:Inst:=Jq0r Xq0r
theorem Eq0r:EqF Tryz.prog 18 gives Tryz.f153 [] [] (Jq0r (Yq0r)):=fun x y K=>by kernel_rfl
theorem Iq0r_ok:InstOk Tryz.prog G.1 Iq0r:=iok (gives:=gives) [] okNil 18 follows Tryz.func153 (by kernel_rfl) (fun x=>by kernel_rfl) (Eq0r)
abbrev Tq18:Type:=Int→(Bool→Prop)→Prop
def Yq18 (a0:Int) (K:Bool→Prop):Prop :=
 (if (Int.tmod a0 (4 :Int) == 0) then
 (if (Int.tmod a0 (100 :Int) != 0) then
 K true
 else
 K (Int.tmod a0 (400 :Int) == 0))
 else
 K (Int.tmod a0 (400 :Int) == 0))
def Xq18:Tq18:=Yq18
def Jq18 (X:Tq18):Inst:=mkI 154 pL2 .nil pL9 .nil X
def Iq18:Inst:=Jq18 Xq18
theorem Eq18:EqF Tryz.prog 16 gives Tryz.f154 [] [] (Jq18 (Yq18)):=fun x y K=>by kernel_rfl
theorem Iq18_ok:InstOk Tryz.prog G.1 Iq18:=iok (gives:=gives) [] okNil 16 follows Tryz.func154 (by kernel_rfl) (fun x=>by kernel_rfl) (Eq18)
abbrev Tq12:Type:=Int→Int→(Int→Prop)→Prop
def Yq12 (xq18:Tq18) (a0:Int) (a1:Int) (K:Int→Prop):Prop :=
 (if (a1 == 2) then
 xq18 a0 (fun r2 =>
 (if r2 then
 K 29
 else
 (if 0≤w64 (a1 - 1)∧w64 (a1 - 1) < 12 then
 (Eng.asInt IntKind.i64 (Eng.getC [Eng.V.c (Value.int IntKind.i64 31),Eng.V.c (Value.int IntKind.i64 28),Eng.V.c (Value.int IntKind.i64 31),Eng.V.c (Value.int IntKind.i64 30),Eng.V.c (Value.int IntKind.i64 31),Eng.V.c (Value.int IntKind.i64 30),Eng.V.c (Value.int IntKind.i64 31),Eng.V.c (Value.int IntKind.i64 31),Eng.V.c (Value.int IntKind.i64 30),Eng.V.c (Value.int IntKind.i64 31),Eng.V.c (Value.int IntKind.i64 30),Eng.V.c (Value.int IntKind.i64 31)] (Int.toNat (w64 (a1 - 1))) (0:Nat)) False fun n3 =>
 K n3)
 else
 False)))
 else
 (if 0≤w64 (a1 - 1)∧w64 (a1 - 1) < 12 then
 (Eng.asInt IntKind.i64 (Eng.getC [Eng.V.c (Value.int IntKind.i64 31),Eng.V.c (Value.int IntKind.i64 28),Eng.V.c (Value.int IntKind.i64 31),Eng.V.c (Value.int IntKind.i64 30),Eng.V.c (Value.int IntKind.i64 31),Eng.V.c (Value.int IntKind.i64 30),Eng.V.c (Value.int IntKind.i64 31),Eng.V.c (Value.int IntKind.i64 31),Eng.V.c (Value.int IntKind.i64 30),Eng.V.c (Value.int IntKind.i64 31),Eng.V.c (Value.int IntKind.i64 30),Eng.V.c (Value.int IntKind.i64 31)] (Int.toNat (w64 (a1 - 1))) (0:Nat)) False fun n4 =>
 K n4)
 else
 False))
def Xq12:Tq12:=Yq12 Xq18
def Jq12 (X:Tq12):Inst:=mkI 144 pL20 .nil pL2 .nil X
def Iq12:Inst:=Jq12 Xq12
theorem Eq12 (xq18:Tq18):EqF Tryz.prog 18 gives Tryz.f144 [Jq18 xq18] [] (Jq12 (Yq12 xq18)):=fun x y K=>by kernel_rfl
theorem Iq12_ok:InstOk Tryz.prog G.1 Iq12:=iok (gives:=gives) [] (okCons Iq18_ok okNil) 18 follows Tryz.func144 (by kernel_rfl) (fun x=>by kernel_rfl) (Eq12 Xq18)
abbrev Tq1d:Type:=Int→(Int→Int→Int→Bool→Prop)→Prop
def Lq1d_1 (xq12:Tq12) (K:Int→Int→Int→Bool→Prop) (k2:Q155→Prop):(Q156→Prop)→Q156→Prop:=fun k6 x7 =>
 xq12 x7.1.2.2.2.2.1 x7.1.2.2.2.2.2.2.1 (fun r8 =>
 (if decide (x7.1.2.2.2.2.2.1≥r8) then
 xq12 x7.1.2.2.2.2.1 x7.1.2.2.2.2.2.2.1 (fun r9 =>
 k6 ((x7.1.1,x7.1.2.1,x7.1.2.2.1,x7.1.2.2.2.1,x7.1.2.2.2.2.1,w64 (x7.1.2.2.2.2.2.1 - r9),w64 (x7.1.2.2.2.2.2.2.1+1),()),()))
 else
 K x7.1.2.2.2.2.1 x7.1.2.2.2.2.2.2.1 (w64 (x7.1.2.2.2.2.2.1+1)) true))
def Lq1d_1p:Lp:=⟨508,[.trim 508],pT157,.nil,0⟩
def Lq1d_0 (xq0r:Tq0r) (xq12:Tq12) (K:Int→Int→Int→Bool→Prop):(Q155→Prop)→Q155→Prop:=fun k2 x3 =>
 xq0r (w64 (x3.1.2.2.2.2.2.1+1)) (fun r4 =>
 (if decide (r4≤x3.1.1) then
 k2 ((x3.1.1,x3.1.2.1,x3.1.2.2.1,x3.1.2.2.2.1,x3.1.2.2.2.2.1,w64 (x3.1.2.2.2.2.2.1+1),()),())
 else
 xq0r x3.1.2.2.2.2.2.1 (fun r5 =>
 lp (Lq1d_1 xq12 K k2) ((x3.1.2.1,x3.1.2.2.1,x3.1.2.2.2.1,x3.1.2.2.2.2.1,x3.1.2.2.2.2.2.1,w64 (x3.1.1 - r5),1,()),()))))
def Lq1d_0p:Lp:=⟨125,[.trim 125],pT158,.nil,0⟩
def Yq1d (xq0r:Tq0r) (xq12:Tq12) (a0:Int) (K:Int→Int→Int→Bool→Prop):Prop :=
 (if decide (a0 < (-719162)) then
 K 0 0 0 false
 else
 (if decide (a0 > 2932896) then
 K 0 0 0 false
 else
 (lt (w64 (Int.tdiv (w64 (a0 - (-719162))) 366)) fun v1 =>
 lp (Lq1d_0 xq0r xq12 K) ((a0,0,0,0,false,w64 (v1+1),()),()))))
def Xq1d:Tq1d:=Yq1d Xq0r Xq12
def Jq1d (X:Tq1d):Inst:=mkI 143 pL2 .nil pL50 .nil X
def Iq1d:Inst:=Jq1d Xq1d
theorem Eq1d (xq0r:Tq0r) (xq12:Tq12):EqF Tryz.prog 46 gives Tryz.f143 [Jq0r xq0r,Jq12 xq12] [Lq1d_0p,Lq1d_1p] (Jq1d (Yq1d xq0r xq12)):=fun x y K=>by kernel_rfl
theorem Iq1d_ok:InstOk Tryz.prog G.1 Iq1d:=iok (gives:=gives) [Lq1d_0p,Lq1d_1p] (okCons Iq0r_ok (okCons Iq12_ok okNil)) 46 follows Tryz.func143 (by kernel_rfl) (fun x=>by kernel_rfl) (Eq1d Xq0r Xq12)
abbrev Tq1l:Type:=Int→(Bool→Prop)→Prop
def Yq1l (xq1d:Tq1d) (xq12:Tq12) (a0:Int) (K:Bool→Prop):Prop :=
 xq1d a0 (fun r1 r2 r3 r4 =>
 (if r4 then
 xq12 r1 r2 (fun r5 =>
 K (r3 == r5))
 else
 K false))
def Xq1l:Tq1l:=Yq1l Xq1d Xq12
def Jq1l (X:Tq1l):Inst:=mkI 126 pL2 .nil pL9 .nil X
def Iq1l:Inst:=Jq1l Xq1l
theorem Eq1l (xq1d:Tq1d) (xq12:Tq12):EqF Tryz.prog 22 gives Tryz.f126 [Jq1d xq1d,Jq12 xq12] [] (Jq1l (Yq1l xq1d xq12)):=fun x y K=>by kernel_rfl
theorem Iq1l_ok:InstOk Tryz.prog G.1 Iq1l:=iok (gives:=gives) [] (okCons Iq1d_ok (okCons Iq12_ok okNil)) 22 follows Tryz.func126 (by kernel_rfl) (fun x=>by kernel_rfl) (Eq1l Xq1d Xq12)
abbrev Tq0t:Type:=Q53→Int→(Int→Prop)→Prop
def Yq0t (xq1l:Tq1l) (a0:Q53) (a1:Int) (K:Int→Prop):Prop :=
 (if 0≤a1∧a1 < (↑(List.length a0.1):Int) then
 (Eng.asInt IntKind.i64 (Eng.getC a0.1 (Int.toNat a1) (0:Nat)) False fun n2 =>
 (Eng.asInt IntKind.i64 (Eng.getC a0.1 (Int.toNat a1) (1:Nat)) False fun n3 =>
 (Eng.asBool (Eng.getC a0.1 (Int.toNat a1) (2:Nat)) False fun b4 =>
 (if decide (a1≥200) then
 K 8
 else
 (if decide (n2 < 730) then
 K 9
 else
 (if decide (n2≥2932896) then
 K 9
 else
 xq1l n2 (fun r5 =>
 (if (!r5) then
 K 5
 else
 (if (n3 != 1) then
 (if (n3 != (-1)) then
 K 6
 else
 (if decide (a1 > 0) then
 (if 0≤w64 (a1 - 1)∧w64 (a1 - 1) < (↑(List.length a0.1):Int) then
 (Eng.asInt IntKind.i64 (Eng.getC a0.1 (Int.toNat (w64 (a1 - 1))) (0:Nat)) False fun n6 =>
 (if decide (n2≤n6) then
 K 4
 else
 K 0))
 else
 False)
 else
 K 0))
 else
 (if decide (a1 > 0) then
 (if 0≤w64 (a1 - 1)∧w64 (a1 - 1) < (↑(List.length a0.1):Int) then
 (Eng.asInt IntKind.i64 (Eng.getC a0.1 (Int.toNat (w64 (a1 - 1))) (0:Nat)) False fun n7 =>
 (if decide (n2≤n7) then
 K 4
 else
 K 0))
 else
 False)
 else
 K 0))))))))))
 else
 False)
def Xq0t:Tq0t:=Yq0t Xq1l
def Jq0t (X:Tq0t):Inst:=mkI 102 pL125 .nil pL2 .nil X
def Iq0t:Inst:=Jq0t Xq0t
theorem Eq0t (xq1l:Tq1l):EqF Tryz.prog 47 gives Tryz.f102 [Jq1l xq1l] [] (Jq0t (Yq0t xq1l)):=fun x y K=>by kernel_rfl
theorem Iq0t_ok:InstOk Tryz.prog G.1 Iq0t:=iok (gives:=gives) [] (okCons Iq1l_ok okNil) 47 follows Tryz.func102 (by kernel_rfl) (fun x=>by kernel_rfl) (Eq0t Xq1l)
abbrev Tq0v:Type:=Q53→(Int→Int→Prop)→Prop
def Lq0v_0 (xq0t:Tq0t) (K:Int→Int→Prop):(Q159→Prop)→Q159→Prop:=fun k1 x2 =>
 (if decide (x2.1.2.2.2.2.1 < (↑(List.length x2.2.1.1):Int)) then
 xq0t x2.2.1 x2.1.2.2.2.2.1 (fun r3 =>
 (if (r3 != 0) then
 K x2.1.2.2.2.2.1 r3
 else
 (if 0≤x2.1.2.2.2.2.1∧x2.1.2.2.2.2.1 < (↑(List.length x2.2.1.1):Int) then
 (Eng.asInt IntKind.i64 (Eng.getC x2.2.1.1 (Int.toNat x2.1.2.2.2.2.1) (0:Nat)) False fun n4 =>
 (lt (w64 (86400 * w64 (n4+1))) fun v5 =>
 k1 (((),x2.1.2.1,x2.1.2.2.1,v5,w64 (x2.1.2.2.2.2.1+1),()),x2.2)))
 else
 False)))
 else
 (if x2.2.1.2.1 then
 (if decide (x2.2.1.2.2.1 < x2.1.2.2.2.1) then
 K (↑(List.length x2.2.1.1):Int) 9
 else
 (if decide (x2.2.1.2.2.1 > 253402300799) then
 K (↑(List.length x2.2.1.1):Int) 9
 else
 (if (!x2.2.1.2.1) then
 (if (x2.2.1.2.2.1 != 0) then
 K (↑(List.length x2.2.1.1):Int) 9
 else
 K (↑(List.length x2.2.1.1):Int) 0)
 else
 K (↑(List.length x2.2.1.1):Int) 0)))
 else
 (if (!x2.2.1.2.1) then
 (if (x2.2.1.2.2.1 != 0) then
 K (↑(List.length x2.2.1.1):Int) 9
 else
 K (↑(List.length x2.2.1.1):Int) 0)
 else
 K (↑(List.length x2.2.1.1):Int) 0)))
def Lq0v_0p:Lp:=⟨62,[.trim 62],pT160,pH56,0⟩
def Yq0v (xq0t:Tq0t) (a0:Q53) (K:Int→Int→Prop):Prop :=
 lp (Lq0v_0 xq0t K) (((),0,0,63072000,0,()),a0,())
def Xq0v:Tq0v:=Yq0v Xq0t
def Jq0v (X:Tq0v):Inst:=mkI 64 pL57 .nil pL20 .nil X
def Iq0v:Inst:=Jq0v Xq0v
theorem Eq0v (xq0t:Tq0t):EqF Tryz.prog 58 gives Tryz.f64 [Jq0t xq0t] [Lq0v_0p] (Jq0v (Yq0v xq0t)):=fun x y K=>by kernel_rfl
theorem Iq0v_ok:InstOk Tryz.prog G.1 Iq0v:=iok (gives:=gives) [Lq0v_0p] (okCons Iq0t_ok okNil) 58 follows Tryz.func64 (by kernel_rfl) (fun x=>by kernel_rfl) (Eq0v Xq0t)
abbrev Tq1k:Type:=Q53→Q51→(Q58→Int→(List Eng.V)→Bool→Bool→Prop)→Prop
def Yq1k (xq17:Tq17) (xq0v:Tq0v) (a0:Q53) (a1:Q51) (K:Q58→Int→(List Eng.V)→Bool→Bool→Prop):Prop :=
 xq17 a0 (fun r2 r3 r4 r5 =>
 (if r4 then
 (if Eng.roomOk (List.length r3+List.length [Eng.V.agg [Eng.V.c (Value.int IntKind.i64 a1.1),Eng.V.c (Value.int IntKind.i64 a1.2.1),Eng.V.c (Value.bool a1.2.2.1)]]) (24:Nat) then
 (lt (r3++[Eng.V.agg [Eng.V.c (Value.int IntKind.i64 a1.1),Eng.V.c (Value.int IntKind.i64 a1.2.1),Eng.V.c (Value.bool a1.2.2.1)]]) fun v6 =>
 xq0v (v6,r2.2) (fun r7 r8 =>
 (if (r8 != 0) then
 xq17 a0 (fun r9 r10 r11 r12 =>
 K ((),r9.2) r8 r10 r11 r12)
 else
 K ((),r2.2) 0 v6 r4 r5)))
 else
 False)
 else
 False))
def Xq1k:Tq1k:=Yq1k Xq17 Xq0v
def Jq1k (X:Tq1k):Inst:=mkI 63 pL59 .nil pL60 pH49 X
def Iq1k:Inst:=Jq1k Xq1k
theorem Eq1k (xq17:Tq17) (xq0v:Tq0v):EqF Tryz.prog 28 gives Tryz.f63 [Jq17 xq17,Jq0v xq0v] [] (Jq1k (Yq1k xq17 xq0v)):=fun x y K=>by kernel_rfl
theorem Iq1k_ok:InstOk Tryz.prog G.1 Iq1k:=iok (gives:=gives) [] (okCons Iq17_ok (okCons Iq0v_ok okNil)) 28 follows Tryz.func63 (by kernel_rfl) (fun x=>by kernel_rfl) (Eq1k Xq17 Xq0v)
abbrev Tq19:Type:=Q53→Q161→Int→(Q58→Int→(List Eng.V)→Bool→Bool→Prop)→Prop
def Yq19 (xq0q:Tq0q) (xq1r:Tq1r) (xq1k:Tq1k) (a0:Q53) (a1:Q161) (a2:Int) (K:Q58→Int→(List Eng.V)→Bool→Bool→Prop):Prop :=
 xq0q a1.2.2.2.1 (fun r3 r4 =>
 xq1r r3 86400 (fun r5 r6 r7 =>
 (if (r6 != 0) then
 K ((),a0.2) 5 a0.1 false true
 else
 (if (w64 (a1.2.2.2.2.1 - a2) != 1) then
 (if (w64 (a1.2.2.2.2.1 - a2) != (-1)) then
 K ((),a0.2) 6 a0.1 false true
 else
 xq1k a0 (w64 (r5 - 1),w64 (a1.2.2.2.2.1 - a2),false,()) (fun r8 r9 r10 r11 r12 =>
 K ((),r8.2) r9 r10 r11 r12))
 else
 xq1k a0 (w64 (r5 - 1),w64 (a1.2.2.2.2.1 - a2),false,()) (fun r13 r14 r15 r16 r17 =>
 K ((),r13.2) r14 r15 r16 r17)))))
def Xq19:Tq19:=Yq19 Xq0q Xq1r Xq1k
def Jq19 (X:Tq19):Inst:=mkI 30 pL162 .nil pL60 pH49 X
def Iq19:Inst:=Jq19 Xq19
theorem Eq19 (xq0q:Tq0q) (xq1r:Tq1r) (xq1k:Tq1k):EqF Tryz.prog 48 gives Tryz.f30 [Jq0q xq0q,Jq1r xq1r,Jq1k xq1k] [] (Jq19 (Yq19 xq0q xq1r xq1k)):=fun x y K=>by kernel_rfl
theorem Iq19_ok:InstOk Tryz.prog G.1 Iq19:=iok (gives:=gives) [] (okCons Iq0q_ok (okCons Iq1r_ok (okCons Iq1k_ok okNil))) 48 follows Tryz.func30 (by kernel_rfl) (fun x=>by kernel_rfl) (Eq19 Xq0q Xq1r Xq1k)
abbrev Tq0m:Type:=Q53→(Bool→Prop)→Prop
def Yq0m (xq0v:Tq0v) (a0:Q53) (K:Bool→Prop):Prop :=
 xq0v a0 (fun r1 r2 =>
 K (r2 == 0))
def Xq0m:Tq0m:=Yq0m Xq0v
def Jq0m (X:Tq0m):Inst:=mkI 31 pL57 .nil pL9 .nil X
def Iq0m:Inst:=Jq0m Xq0m
theorem Eq0m (xq0v:Tq0v):EqF Tryz.prog 12 gives Tryz.f31 [Jq0v xq0v] [] (Jq0m (Yq0m xq0v)):=fun x y K=>by kernel_rfl
theorem Iq0m_ok:InstOk Tryz.prog G.1 Iq0m:=iok (gives:=gives) [] (okCons Iq0v_ok okNil) 12 follows Tryz.func31 (by kernel_rfl) (fun x=>by kernel_rfl) (Eq0m Xq0v)
abbrev Tq0i:Type:=(List Eng.V)→(ByteArray→Prop)→Prop
def Lq0i_2 (K:ByteArray→Prop) (k1:Q163→Prop) (k3:Q164→Prop):(Q165→Prop)→Q165→Prop:=fun k7 x8 =>
 (if 0≤x8.1.2.2.2.2.1∧x8.1.2.2.2.2.1 < (↑(List.length x8.1.1):Int) then
 (Eng.asSl (1:Nat) (Eng.getC x8.1.1 (Int.toNat x8.1.2.2.2.2.1) (2:Nat)) False fun l9 l10 =>
 (if decide (x8.1.2.2.2.2.2.1 < (↑(List.length l10):Int)) then
 (if 0≤x8.1.2.2.2.2.1∧x8.1.2.2.2.2.1 < (↑(List.length x8.1.1):Int) then
 (Eng.asSl (1:Nat) (Eng.getC x8.1.1 (Int.toNat x8.1.2.2.2.2.1) (2:Nat)) False fun l11 l12 =>
 (if 0≤x8.1.2.2.2.2.2.1∧x8.1.2.2.2.2.2.1 < (↑(List.length l12):Int) then
 (Eng.asStr (Eng.getC l12 (Int.toNat x8.1.2.2.2.2.2.1) (0:Nat)) False fun t13 =>
 (if (↑(ByteArray.size x8.1.2.2.1+ByteArray.size t13):Int) > 9223372036854775807 then
 False
 else
 k7 ((x8.1.1,x8.1.2.1,x8.1.2.2.1++t13,x8.1.2.2.2.1,x8.1.2.2.2.2.1,w64 (x8.1.2.2.2.2.2.1+1),()),())))
 else
 False))
 else
 False)
 else
 k3 ((x8.1.1,x8.1.2.1,x8.1.2.2.1,x8.1.2.2.2.1,w64 (x8.1.2.2.2.2.1+1),()),())))
 else
 False)
def Lq0i_2p:Lp:=⟨125,[.trim 125],pT166,.nil,0⟩
def Lq0i_1 (K:ByteArray→Prop) (k1:Q163→Prop):(Q164→Prop)→Q164→Prop:=fun k3 x4 =>
 (if decide (x4.1.2.2.2.2.1 < (↑(List.length x4.1.1):Int)) then
 (if 0≤x4.1.2.2.2.2.1∧x4.1.2.2.2.2.1 < (↑(List.length x4.1.1):Int) then
 (Eng.asInt IntKind.i64 (Eng.getC x4.1.1 (Int.toNat x4.1.2.2.2.2.1) (0:Nat)) False fun n5 =>
 (if (n5 != x4.1.2.2.2.1) then
 k3 ((x4.1.1,x4.1.2.1,x4.1.2.2.1,x4.1.2.2.2.1,w64 (x4.1.2.2.2.2.1+1),()),())
 else
 (if 0≤x4.1.2.2.2.2.1∧x4.1.2.2.2.2.1 < (↑(List.length x4.1.1):Int) then
 (Eng.asBool (Eng.getC x4.1.1 (Int.toNat x4.1.2.2.2.2.1) (1:Nat)) False fun b6 =>
 (if (!b6) then
 k3 ((x4.1.1,x4.1.2.1,x4.1.2.2.1,x4.1.2.2.2.1,w64 (x4.1.2.2.2.2.1+1),()),())
 else
 (if (x4.1.2.2.2.1 == 3) then
 k3 ((x4.1.1,x4.1.2.1,x4.1.2.2.1,x4.1.2.2.2.1,w64 (x4.1.2.2.2.2.1+1),()),())
 else
 (if (x4.1.2.2.2.1 == 4) then
 k3 ((x4.1.1,x4.1.2.1,x4.1.2.2.1,x4.1.2.2.2.1,w64 (x4.1.2.2.2.2.1+1),()),())
 else
 lp (Lq0i_2 K k1 k3) ((x4.1.1,x4.1.2.1,x4.1.2.2.1,x4.1.2.2.2.1,x4.1.2.2.2.2.1,0,()),())))))
 else
 False)))
 else
 False)
 else
 k1 ((x4.1.1,x4.1.2.1,x4.1.2.2.1,w64 (x4.1.2.2.2.1+1),()),()))
def Lq0i_1p:Lp:=⟨61,[.trim 61],pT167,.nil,0⟩
def Lq0i_0 (K:ByteArray→Prop):(Q163→Prop)→Q163→Prop:=fun k1 x2 =>
 (if decide (x2.1.2.2.2.1≤5) then
 lp (Lq0i_1 K k1) ((x2.1.1,x2.1.2.1,x2.1.2.2.1,x2.1.2.2.2.1,0,()),())
 else
 K x2.1.2.2.1)
def Lq0i_0p:Lp:=⟨29,[.trim 29],pT168,.nil,0⟩
def Yq0i (a0:(List Eng.V)) (K:ByteArray→Prop):Prop :=
 lp (Lq0i_0 K) ((a0,ByteArray.mk #[],ByteArray.mk #[],1,()),())
def Xq0i:Tq0i:=Yq0i
def Jq0i (X:Tq0i):Inst:=mkI 43 pL169 .nil pL0 .nil X
def Iq0i:Inst:=Jq0i Xq0i
theorem Eq0i:EqF Tryz.prog 61 gives Tryz.f43 [] [Lq0i_0p,Lq0i_1p,Lq0i_2p] (Jq0i (Yq0i)):=fun x y K=>by kernel_rfl
theorem Iq0i_ok:InstOk Tryz.prog G.1 Iq0i:=iok (gives:=gives) [Lq0i_0p,Lq0i_1p,Lq0i_2p] okNil 61 follows Tryz.func43 (by kernel_rfl) (fun x=>by kernel_rfl) (Eq0i)
abbrev Tq0h:Type:=(List Eng.V)→((List Eng.V)→Bool→Bool→Prop)→Prop
def Lq0h_1 (K:(List Eng.V)→Bool→Bool→Prop) (k1:Q170→Prop):(Q171→Prop)→Q171→Prop:=fun k3 x4 =>
 (if decide (x4.1.2.2.2.1 < 8) then
 (lt (w64 (56 - w64 (8 * x4.1.2.2.2.1))) fun v5 =>
 (if v5 < 0 then
 False
 else
 (if Eng.roomOk (List.length x4.2.1+List.length [Eng.V.c (Value.int IntKind.u8 (wu8 (Int.fdiv x4.1.2.2.1 (2 ^ Min.min (Int.toNat v5) (64:Nat)))))]) (1:Nat) then
 k3 (((),(),x4.1.2.2.1,w64 (x4.1.2.2.2.1+1),()),x4.2.1++[Eng.V.c (Value.int IntKind.u8 (wu8 (Int.fdiv x4.1.2.2.1 (2 ^ Min.min (Int.toNat v5) (64:Nat)))))],())
 else
 False)))
 else
 K x4.2.1 true false)
def Lq0h_1p:Lp:=⟨60,[.trim 60],pT172,pH173,0⟩
def Lq0h_0 (K:(List Eng.V)→Bool→Bool→Prop):(Q170→Prop)→Q170→Prop:=fun k1 x2 =>
 (if (Int.tmod (↑(List.length x2.2.1):Int) (64 :Int) != 56) then
 (if Eng.roomOk (List.length x2.2.1+(1:Nat)) (1:Nat) then
 k1 ((x2.1.1,(),(),()),x2.2.1++[Eng.V.c (Value.int IntKind.u8 0)],())
 else
 False)
 else
 lp (Lq0h_1 K k1) (((),(),wu64 (wu64 (↑(List.length x2.1.1):Int) * 8),0,()),x2.2))
def Lq0h_0p:Lp:=⟨13,[.trim 13],pT174,pH173,0⟩
def Yq0h (a0:(List Eng.V)) (K:(List Eng.V)→Bool→Bool→Prop):Prop :=
 (if Eng.roomOk ((0:Nat)+List.length a0) (1:Nat) then
 (if Eng.roomOk (List.length ([]++a0)+(1:Nat)) (1:Nat) then
 lp (Lq0h_0 K) ((a0,(),(),()),[]++a0++[Eng.V.c (Value.int IntKind.u8 128)],())
 else
 False)
 else
 False)
def Xq0h:Tq0h:=Yq0h
def Jq0h (X:Tq0h):Inst:=mkI 70 pL75 .nil pL7 pH8 X
def Iq0h:Inst:=Jq0h Xq0h
theorem Eq0h:EqF Tryz.prog 36 gives Tryz.f70 [] [Lq0h_0p,Lq0h_1p] (Jq0h (Yq0h)):=fun x y K=>by kernel_rfl
theorem Iq0h_ok:InstOk Tryz.prog G.1 Iq0h:=iok (gives:=gives) [Lq0h_0p,Lq0h_1p] okNil 36 follows Tryz.func70 (by kernel_rfl) (fun x=>by kernel_rfl) (Eq0h)
abbrev Tq1e:Type:=Int→Int→(Int→Prop)→Prop
def Yq1e (a0:Int) (a1:Int) (K:Int→Prop):Prop :=
 (if a1 < 0 then
 False
 else
 (if w64 (32 - a1) < 0 then
 False
 else
 (lt (wu32 (↑(BitVec.toNat (BitVec.ofInt (32:Nat) (wu32 (a0 * 2 ^ Min.min (Int.toNat a1) (32:Nat))) ||| BitVec.ofInt (32:Nat) (Int.fdiv a0 (2 ^ Min.min (Int.toNat (w64 (32 - a1))) (32:Nat))))):Int)) fun v2 =>
 K v2)))
def Xq1e:Tq1e:=Yq1e
def Jq1e (X:Tq1e):Inst:=mkI 106 pL76 .nil pL77 .nil X
def Iq1e:Inst:=Jq1e Xq1e
theorem Eq1e:EqF Tryz.prog 13 gives Tryz.f106 [] [] (Jq1e (Yq1e)):=fun x y K=>by kernel_rfl
theorem Iq1e_ok:InstOk Tryz.prog G.1 Iq1e:=iok (gives:=gives) [] okNil 13 follows Tryz.func106 (by kernel_rfl) (fun x=>by kernel_rfl) (Eq1e)
abbrev Tq1o:Type:=Int→Int→Int→Int→(Int→Prop)→Prop
def Yq1o (a0:Int) (a1:Int) (a2:Int) (a3:Int) (K:Int→Prop):Prop :=
 (if decide (a0 < 20) then
 (lt (wu32 (↑(BitVec.toNat (BitVec.ofInt (32:Nat) (wu32 (↑(BitVec.toNat (BitVec.ofInt (32:Nat) 4294967295 ^^^ BitVec.ofInt (32:Nat) a1)):Int)) &&& BitVec.ofInt (32:Nat) a3)):Int)) fun v4 =>
 (lt (wu32 (↑(BitVec.toNat (BitVec.ofInt (32:Nat) (wu32 (↑(BitVec.toNat (BitVec.ofInt (32:Nat) a1 &&& BitVec.ofInt (32:Nat) a2)):Int)) ^^^ BitVec.ofInt (32:Nat) v4)):Int)) fun v5 =>
 K (wu32 (v5+1518500249))))
 else
 (if decide (a0 < 40) then
 (lt (wu32 (↑(BitVec.toNat (BitVec.ofInt (32:Nat) (wu32 (↑(BitVec.toNat (BitVec.ofInt (32:Nat) a1 ^^^ BitVec.ofInt (32:Nat) a2)):Int)) ^^^ BitVec.ofInt (32:Nat) a3)):Int)) fun v6 =>
 K (wu32 (v6+1859775393)))
 else
 (if decide (a0 < 60) then
 (lt (wu32 (↑(BitVec.toNat (BitVec.ofInt (32:Nat) (wu32 (↑(BitVec.toNat (BitVec.ofInt (32:Nat) a1 &&& BitVec.ofInt (32:Nat) a2)):Int)) ^^^ BitVec.ofInt (32:Nat) (wu32 (↑(BitVec.toNat (BitVec.ofInt (32:Nat) a1 &&& BitVec.ofInt (32:Nat) a3)):Int)))):Int)) fun v7 =>
 (lt (wu32 (↑(BitVec.toNat (BitVec.ofInt (32:Nat) v7 ^^^ BitVec.ofInt (32:Nat) (wu32 (↑(BitVec.toNat (BitVec.ofInt (32:Nat) a2 &&& BitVec.ofInt (32:Nat) a3)):Int)))):Int)) fun v8 =>
 K (wu32 (v8+2400959708))))
 else
 (lt (wu32 (↑(BitVec.toNat (BitVec.ofInt (32:Nat) (wu32 (↑(BitVec.toNat (BitVec.ofInt (32:Nat) a1 ^^^ BitVec.ofInt (32:Nat) a2)):Int)) ^^^ BitVec.ofInt (32:Nat) a3)):Int)) fun v9 =>
 K (wu32 (v9+3395469782))))))
def Xq1o:Tq1o:=Yq1o
def Jq1o (X:Tq1o):Inst:=mkI 107 pL175 .nil pL77 .nil X
def Iq1o:Inst:=Jq1o Xq1o
theorem Eq1o:EqF Tryz.prog 48 gives Tryz.f107 [] [] (Jq1o (Yq1o)):=fun x y K=>by kernel_rfl
theorem Iq1o_ok:InstOk Tryz.prog G.1 Iq1o:=iok (gives:=gives) [] okNil 48 follows Tryz.func107 (by kernel_rfl) (fun x=>by kernel_rfl) (Eq1o)
abbrev Tq0k:Type:=Q37→(List Eng.V)→(Q37→Prop)→Prop
def Lq0k_3 (K:Q37→Prop) (k2:Q176→Prop) (k14:Q177→Prop) (k22:Q178→Prop):(Q177→Prop)→Q177→Prop:=fun k39 x40 =>
 (if decide (x40.1.2.2.2.1 < 5) then
 (if 0≤x40.1.2.2.2.1∧x40.1.2.2.2.1 < 5 then
 (Eng.asInt IntKind.u32 (Eng.getC x40.2.2.2.1 (0:Nat) ((0:Nat)+Int.toNat x40.1.2.2.2.1 * (1:Nat))) False fun n41 =>
 (if 0≤x40.1.2.2.2.1∧x40.1.2.2.2.1 < 5 then
 (Eng.asInt IntKind.u32 ([Eng.V.c (Value.int IntKind.u32 x40.2.1.1),Eng.V.c (Value.int IntKind.u32 x40.2.1.2.1),Eng.V.c (Value.int IntKind.u32 x40.2.1.2.2.1),Eng.V.c (Value.int IntKind.u32 x40.2.1.2.2.2.1),Eng.V.c (Value.int IntKind.u32 x40.2.1.2.2.2.2.1)][(0:Nat)+Int.toNat x40.1.2.2.2.1 * (1:Nat)]?) False fun n42 =>
 (if 0≤x40.1.2.2.2.1∧x40.1.2.2.2.1 < 5 then
 (if (0:Nat) < List.length x40.2.2.2.1 then
 (if (0:Nat)+Int.toNat x40.1.2.2.2.1 * (1:Nat)+List.length [Eng.V.c (Value.int IntKind.u32 (wu32 (n41+n42)))]≤(5:Nat) then
 (lt (List.set x40.2.2.2.1 (0:Nat) (Eng.setE (List.getD x40.2.2.2.1 (0:Nat) Eng.V.bad) ((0:Nat)+Int.toNat x40.1.2.2.2.1 * (1:Nat)) [Eng.V.c (Value.int IntKind.u32 (wu32 (n41+n42)))])) fun v43 =>
 k39 (((),(),(),w64 (x40.1.2.2.2.1+1),()),x40.2.1,x40.2.2.1,v43,()))
 else
 False)
 else
 False)
 else
 False))
 else
 False))
 else
 False)
 else
 (Eng.asInt IntKind.u32 (Eng.getC x40.2.2.2.1 (0:Nat) (0:Nat)) False fun n44 =>
 (Eng.asInt IntKind.u32 (Eng.getC x40.2.2.2.1 (0:Nat) (1:Nat)) False fun n45 =>
 (Eng.asInt IntKind.u32 (Eng.getC x40.2.2.2.1 (0:Nat) (2:Nat)) False fun n46 =>
 (Eng.asInt IntKind.u32 (Eng.getC x40.2.2.2.1 (0:Nat) (3:Nat)) False fun n47 =>
 (Eng.asInt IntKind.u32 (Eng.getC x40.2.2.2.1 (0:Nat) (4:Nat)) False fun n48 =>
 (if (0:Nat) < List.length x40.2.2.1 then
 (lt (List.set x40.2.2.1 (0:Nat) (Eng.setE (List.getD x40.2.2.1 (0:Nat) Eng.V.bad) (0:Nat) [Eng.V.c (Value.int IntKind.u32 n44),Eng.V.c (Value.int IntKind.u32 n45),Eng.V.c (Value.int IntKind.u32 n46),Eng.V.c (Value.int IntKind.u32 n47),Eng.V.c (Value.int IntKind.u32 n48)])) fun v49 =>
 (Eng.asInt IntKind.u32 (Eng.getC v49 (0:Nat) (0:Nat)) False fun n50 =>
 (Eng.asInt IntKind.u32 (Eng.getC v49 (0:Nat) (1:Nat)) False fun n51 =>
 (Eng.asInt IntKind.u32 (Eng.getC v49 (0:Nat) (2:Nat)) False fun n52 =>
 (Eng.asInt IntKind.u32 (Eng.getC v49 (0:Nat) (3:Nat)) False fun n53 =>
 (Eng.asInt IntKind.u32 (Eng.getC v49 (0:Nat) (4:Nat)) False fun n54 =>
 K (n50,n51,n52,n53,n54,())))))))
 else
 False)))))))
def Lq0k_3p:Lp:=⟨2324,[.trim 2324],pT179,pH180,0⟩
def Lq0k_2 (xq1e:Tq1e) (xq1o:Tq1o) (K:Q37→Prop) (k2:Q176→Prop) (k14:Q177→Prop):(Q178→Prop)→Q178→Prop:=fun k22 x23 =>
 (if decide (x23.1.2.2.2.2.1 < 80) then
 (Eng.asInt IntKind.u32 (Eng.getC x23.2.2.2.1 (0:Nat) (0:Nat)) False fun n24 =>
 (Eng.asInt IntKind.u32 (Eng.getC x23.2.2.2.1 (0:Nat) (1:Nat)) False fun n25 =>
 (Eng.asInt IntKind.u32 (Eng.getC x23.2.2.2.1 (0:Nat) (2:Nat)) False fun n26 =>
 (Eng.asInt IntKind.u32 (Eng.getC x23.2.2.2.1 (0:Nat) (3:Nat)) False fun n27 =>
 (Eng.asInt IntKind.u32 (Eng.getC x23.2.2.2.1 (0:Nat) (4:Nat)) False fun n28 =>
 (if 0≤x23.1.2.2.2.2.1∧x23.1.2.2.2.2.1 < (↑(List.length x23.2.2.2.2.1):Int) then
 (Eng.asInt IntKind.u32 (Eng.getC x23.2.2.2.2.1 (Int.toNat x23.1.2.2.2.2.1) (0:Nat)) False fun n29 =>
 xq1e n24 5 (fun r30 =>
 xq1o x23.1.2.2.2.2.1 n25 n26 n27 (fun r31 =>
 (lt (wu32 (wu32 (r30+r31)+n28)) fun v32 =>
 (Eng.asInt IntKind.u32 (Eng.getC x23.2.2.2.1 (0:Nat) (0:Nat)) False fun n33 =>
 (Eng.asInt IntKind.u32 (Eng.getC x23.2.2.2.1 (0:Nat) (1:Nat)) False fun n34 =>
 (Eng.asInt IntKind.u32 (Eng.getC x23.2.2.2.1 (0:Nat) (2:Nat)) False fun n35 =>
 (Eng.asInt IntKind.u32 (Eng.getC x23.2.2.2.1 (0:Nat) (3:Nat)) False fun n36 =>
 xq1e n34 30 (fun r37 =>
 (if (0:Nat) < List.length x23.2.2.2.1 then
 (lt (List.set x23.2.2.2.1 (0:Nat) (Eng.setE (List.getD x23.2.2.2.1 (0:Nat) Eng.V.bad) (0:Nat) [Eng.V.c (Value.int IntKind.u32 (wu32 (v32+n29))),Eng.V.c (Value.int IntKind.u32 n33),Eng.V.c (Value.int IntKind.u32 r37),Eng.V.c (Value.int IntKind.u32 n35),Eng.V.c (Value.int IntKind.u32 n36)])) fun v38 =>
 k22 (((),(),(),(),w64 (x23.1.2.2.2.2.1+1),()),x23.2.1,x23.2.2.1,v38,x23.2.2.2.2))
 else
 False))))))))))
 else
 False))))))
 else
 lp (Lq0k_3 K k2 k14 k22) (((),(),(),0,()),x23.2.1,x23.2.2.1,x23.2.2.2.1,()))
def Lq0k_2p:Lp:=⟨820,[.trim 820],pT181,pH182,0⟩
def Lq0k_1 (xq1e:Tq1e) (xq1o:Tq1o) (K:Q37→Prop) (k2:Q176→Prop):(Q177→Prop)→Q177→Prop:=fun k14 x15 =>
 (if decide (x15.1.2.2.2.1 < 80) then
 (if 0≤w64 (x15.1.2.2.2.1 - 3)∧w64 (x15.1.2.2.2.1 - 3) < (↑(List.length x15.2.2.2.1):Int) then
 (Eng.asInt IntKind.u32 (Eng.getC x15.2.2.2.1 (Int.toNat (w64 (x15.1.2.2.2.1 - 3))) (0:Nat)) False fun n16 =>
 (if 0≤w64 (x15.1.2.2.2.1 - 8)∧w64 (x15.1.2.2.2.1 - 8) < (↑(List.length x15.2.2.2.1):Int) then
 (Eng.asInt IntKind.u32 (Eng.getC x15.2.2.2.1 (Int.toNat (w64 (x15.1.2.2.2.1 - 8))) (0:Nat)) False fun n17 =>
 (if 0≤w64 (x15.1.2.2.2.1 - 14)∧w64 (x15.1.2.2.2.1 - 14) < (↑(List.length x15.2.2.2.1):Int) then
 (Eng.asInt IntKind.u32 (Eng.getC x15.2.2.2.1 (Int.toNat (w64 (x15.1.2.2.2.1 - 14))) (0:Nat)) False fun n18 =>
 (lt (wu32 (↑(BitVec.toNat (BitVec.ofInt (32:Nat) (wu32 (↑(BitVec.toNat (BitVec.ofInt (32:Nat) n16 ^^^ BitVec.ofInt (32:Nat) n17)):Int)) ^^^ BitVec.ofInt (32:Nat) n18)):Int)) fun v19 =>
 (if 0≤w64 (x15.1.2.2.2.1 - 16)∧w64 (x15.1.2.2.2.1 - 16) < (↑(List.length x15.2.2.2.1):Int) then
 (Eng.asInt IntKind.u32 (Eng.getC x15.2.2.2.1 (Int.toNat (w64 (x15.1.2.2.2.1 - 16))) (0:Nat)) False fun n20 =>
 xq1e (wu32 (↑(BitVec.toNat (BitVec.ofInt (32:Nat) v19 ^^^ BitVec.ofInt (32:Nat) n20)):Int)) 1 (fun r21 =>
 (if Eng.roomOk (List.length x15.2.2.2.1+List.length [Eng.V.c (Value.int IntKind.u32 r21)]) (4:Nat) then
 k14 (((),(),(),w64 (x15.1.2.2.2.1+1),()),x15.2.1,x15.2.2.1,x15.2.2.2.1++[Eng.V.c (Value.int IntKind.u32 r21)],())
 else
 False)))
 else
 False)))
 else
 False))
 else
 False))
 else
 False)
 else
 lp (Lq0k_2 xq1e xq1o K k2 k14) (((),(),(),(),0,()),x15.2.1,x15.2.2.1,[Eng.V.agg [Eng.V.c (Value.int IntKind.u32 x15.2.1.1),Eng.V.c (Value.int IntKind.u32 x15.2.1.2.1),Eng.V.c (Value.int IntKind.u32 x15.2.1.2.2.1),Eng.V.c (Value.int IntKind.u32 x15.2.1.2.2.2.1),Eng.V.c (Value.int IntKind.u32 x15.2.1.2.2.2.2.1)]],x15.2.2.2))
def Lq0k_1p:Lp:=⟨180,[.trim 180],pT183,pH184,0⟩
def Lq0k_0 (xq1e:Tq1e) (xq1o:Tq1o) (K:Q37→Prop):(Q176→Prop)→Q176→Prop:=fun k2 x3 =>
 (if decide (x3.1.2.2.2.2.1 < 16) then
 (if 0≤w64 (4 * x3.1.2.2.2.2.1)∧w64 (4 * x3.1.2.2.2.2.1) < (↑(List.length x3.1.1):Int) then
 (Eng.asInt IntKind.u8 (Eng.getC x3.1.1 (Int.toNat (w64 (4 * x3.1.2.2.2.2.1))) (0:Nat)) False fun n4 =>
 (lt (w64 (w64 (4 * x3.1.2.2.2.2.1)+1)) fun v5 =>
 (if 0≤v5∧v5 < (↑(List.length x3.1.1):Int) then
 (Eng.asInt IntKind.u8 (Eng.getC x3.1.1 (Int.toNat v5) (0:Nat)) False fun n6 =>
 (lt (wu32 (↑(BitVec.toNat (BitVec.ofInt (32:Nat) (wu32 (wu32 n4 * 16777216)) ||| BitVec.ofInt (32:Nat) (wu32 (wu32 n6 * 65536)))):Int)) fun v7 =>
 (lt (w64 (w64 (4 * x3.1.2.2.2.2.1)+2)) fun v8 =>
 (if 0≤v8∧v8 < (↑(List.length x3.1.1):Int) then
 (Eng.asInt IntKind.u8 (Eng.getC x3.1.1 (Int.toNat v8) (0:Nat)) False fun n9 =>
 (lt (wu32 (↑(BitVec.toNat (BitVec.ofInt (32:Nat) v7 ||| BitVec.ofInt (32:Nat) (wu32 (wu32 n9 * 256)))):Int)) fun v10 =>
 (lt (w64 (w64 (4 * x3.1.2.2.2.2.1)+3)) fun v11 =>
 (if 0≤v11∧v11 < (↑(List.length x3.1.1):Int) then
 (Eng.asInt IntKind.u8 (Eng.getC x3.1.1 (Int.toNat v11) (0:Nat)) False fun n12 =>
 (if Eng.roomOk (List.length x3.2.2.2.1+List.length [Eng.V.c (Value.int IntKind.u32 (wu32 (↑(BitVec.toNat (BitVec.ofInt (32:Nat) v10 ||| BitVec.ofInt (32:Nat) (wu32 n12))):Int)))]) (4:Nat) then
 (lt (x3.2.2.2.1++[Eng.V.c (Value.int IntKind.u32 (wu32 (↑(BitVec.toNat (BitVec.ofInt (32:Nat) v10 ||| BitVec.ofInt (32:Nat) (wu32 n12))):Int)))]) fun v13 =>
 k2 ((x3.1.1,(),(),(),w64 (x3.1.2.2.2.2.1+1),()),x3.2.1,x3.2.2.1,v13,()))
 else
 False))
 else
 False))))
 else
 False))))
 else
 False)))
 else
 False)
 else
 lp (Lq0k_1 xq1e xq1o K k2) (((),(),(),16,()),x3.2))
def Lq0k_0p:Lp:=⟨118,[.trim 118,.fat 5 1 2192,.trim 118],pT185,pH184,0⟩
def Yq0k (xq1e:Tq1e) (xq1o:Tq1o) (a0:Q37) (a1:(List Eng.V)) (K:Q37→Prop):Prop :=
 lp (Lq0k_0 xq1e xq1o K) ((a1,(),(),(),0,()),a0,[Eng.V.agg [Eng.V.c (Value.int IntKind.u32 0),Eng.V.c (Value.int IntKind.u32 0),Eng.V.c (Value.int IntKind.u32 0),Eng.V.c (Value.int IntKind.u32 0),Eng.V.c (Value.int IntKind.u32 0)]],[],())
def Xq0k:Tq0k:=Yq0k Xq1e Xq1o
def Jq0k (X:Tq0k):Inst:=mkI 71 pL186 .nil pL110 .nil X
def Iq0k:Inst:=Jq0k Xq0k
theorem Eq0k (xq1e:Tq1e) (xq1o:Tq1o):EqF Tryz.prog 133 gives Tryz.f71 [Jq1e xq1e,Jq1o xq1o] [Lq0k_0p,Lq0k_1p,Lq0k_2p,Lq0k_3p] (Jq0k (Yq0k xq1e xq1o)):=fun x y K=>by kernel_rfl
theorem Iq0k_ok:InstOk Tryz.prog G.1 Iq0k:=iok (gives:=gives) [Lq0k_0p,Lq0k_1p,Lq0k_2p,Lq0k_3p] (okCons Iq1e_ok (okCons Iq1o_ok okNil)) 133 follows Tryz.func71 (by kernel_rfl) (fun x=>by kernel_rfl) (Eq0k Xq1e Xq1o)
abbrev Tq1q:Type:=(List Eng.V)→(Q91→Prop)→Prop
def Lq1q_1 (K:Q91→Prop) (k4:Q187→Prop):(Q188→Prop)→Q188→Prop:=fun k13 x14 =>
 (if decide (x14.1.2.2.2.1 < 20) then
 (if 0≤w64 (Int.tdiv x14.1.2.2.2.1 4)∧w64 (Int.tdiv x14.1.2.2.2.1 4) < 5 then
 (Eng.asInt IntKind.u32 (Eng.getC x14.2.2.1 (0:Nat) ((0:Nat)+Int.toNat (w64 (Int.tdiv x14.1.2.2.2.1 4)) * (1:Nat))) False fun n15 =>
 (lt (w64 (24 - w64 (8 * Int.tmod x14.1.2.2.2.1 4))) fun v16 =>
 (if v16 < 0 then
 False
 else
 (if 0≤x14.1.2.2.2.1∧x14.1.2.2.2.1 < 20 then
 (if (0:Nat) < List.length x14.2.2.2.1 then
 (if (0:Nat)+Int.toNat x14.1.2.2.2.1 * (1:Nat)+List.length [Eng.V.c (Value.int IntKind.u8 (wu8 (Int.fdiv n15 (2 ^ Min.min (Int.toNat v16) (32:Nat)))))]≤(20:Nat) then
 (lt (List.set x14.2.2.2.1 (0:Nat) (Eng.setE (List.getD x14.2.2.2.1 (0:Nat) Eng.V.bad) ((0:Nat)+Int.toNat x14.1.2.2.2.1 * (1:Nat)) [Eng.V.c (Value.int IntKind.u8 (wu8 (Int.fdiv n15 (2 ^ Min.min (Int.toNat v16) (32:Nat)))))])) fun v17 =>
 k13 (((),(),(),w64 (x14.1.2.2.2.1+1),()),x14.2.1,x14.2.2.1,v17,()))
 else
 False)
 else
 False)
 else
 False))))
 else
 False)
 else
 (Eng.asInt IntKind.u8 (Eng.getC x14.2.2.2.1 (0:Nat) (0:Nat)) False fun n18 =>
 (Eng.asInt IntKind.u8 (Eng.getC x14.2.2.2.1 (0:Nat) (1:Nat)) False fun n19 =>
 (Eng.asInt IntKind.u8 (Eng.getC x14.2.2.2.1 (0:Nat) (2:Nat)) False fun n20 =>
 (Eng.asInt IntKind.u8 (Eng.getC x14.2.2.2.1 (0:Nat) (3:Nat)) False fun n21 =>
 (Eng.asInt IntKind.u8 (Eng.getC x14.2.2.2.1 (0:Nat) (4:Nat)) False fun n22 =>
 (Eng.asInt IntKind.u8 (Eng.getC x14.2.2.2.1 (0:Nat) (5:Nat)) False fun n23 =>
 (Eng.asInt IntKind.u8 (Eng.getC x14.2.2.2.1 (0:Nat) (6:Nat)) False fun n24 =>
 (Eng.asInt IntKind.u8 (Eng.getC x14.2.2.2.1 (0:Nat) (7:Nat)) False fun n25 =>
 (Eng.asInt IntKind.u8 (Eng.getC x14.2.2.2.1 (0:Nat) (8:Nat)) False fun n26 =>
 (Eng.asInt IntKind.u8 (Eng.getC x14.2.2.2.1 (0:Nat) (9:Nat)) False fun n27 =>
 (Eng.asInt IntKind.u8 (Eng.getC x14.2.2.2.1 (0:Nat) (10:Nat)) False fun n28 =>
 (Eng.asInt IntKind.u8 (Eng.getC x14.2.2.2.1 (0:Nat) (11:Nat)) False fun n29 =>
 (Eng.asInt IntKind.u8 (Eng.getC x14.2.2.2.1 (0:Nat) (12:Nat)) False fun n30 =>
 (Eng.asInt IntKind.u8 (Eng.getC x14.2.2.2.1 (0:Nat) (13:Nat)) False fun n31 =>
 (Eng.asInt IntKind.u8 (Eng.getC x14.2.2.2.1 (0:Nat) (14:Nat)) False fun n32 =>
 (Eng.asInt IntKind.u8 (Eng.getC x14.2.2.2.1 (0:Nat) (15:Nat)) False fun n33 =>
 (Eng.asInt IntKind.u8 (Eng.getC x14.2.2.2.1 (0:Nat) (16:Nat)) False fun n34 =>
 (Eng.asInt IntKind.u8 (Eng.getC x14.2.2.2.1 (0:Nat) (17:Nat)) False fun n35 =>
 (Eng.asInt IntKind.u8 (Eng.getC x14.2.2.2.1 (0:Nat) (18:Nat)) False fun n36 =>
 (Eng.asInt IntKind.u8 (Eng.getC x14.2.2.2.1 (0:Nat) (19:Nat)) False fun n37 =>
 (if (0:Nat) < List.length x14.2.1 then
 (lt (List.set x14.2.1 (0:Nat) (Eng.setE (List.getD x14.2.1 (0:Nat) Eng.V.bad) (0:Nat) [Eng.V.c (Value.int IntKind.u8 n18),Eng.V.c (Value.int IntKind.u8 n19),Eng.V.c (Value.int IntKind.u8 n20),Eng.V.c (Value.int IntKind.u8 n21),Eng.V.c (Value.int IntKind.u8 n22),Eng.V.c (Value.int IntKind.u8 n23),Eng.V.c (Value.int IntKind.u8 n24),Eng.V.c (Value.int IntKind.u8 n25),Eng.V.c (Value.int IntKind.u8 n26),Eng.V.c (Value.int IntKind.u8 n27),Eng.V.c (Value.int IntKind.u8 n28),Eng.V.c (Value.int IntKind.u8 n29),Eng.V.c (Value.int IntKind.u8 n30),Eng.V.c (Value.int IntKind.u8 n31),Eng.V.c (Value.int IntKind.u8 n32),Eng.V.c (Value.int IntKind.u8 n33),Eng.V.c (Value.int IntKind.u8 n34),Eng.V.c (Value.int IntKind.u8 n35),Eng.V.c (Value.int IntKind.u8 n36),Eng.V.c (Value.int IntKind.u8 n37)])) fun v38 =>
 (Eng.asInt IntKind.u8 (Eng.getC v38 (0:Nat) (0:Nat)) False fun n39 =>
 (Eng.asInt IntKind.u8 (Eng.getC v38 (0:Nat) (1:Nat)) False fun n40 =>
 (Eng.asInt IntKind.u8 (Eng.getC v38 (0:Nat) (2:Nat)) False fun n41 =>
 (Eng.asInt IntKind.u8 (Eng.getC v38 (0:Nat) (3:Nat)) False fun n42 =>
 (Eng.asInt IntKind.u8 (Eng.getC v38 (0:Nat) (4:Nat)) False fun n43 =>
 (Eng.asInt IntKind.u8 (Eng.getC v38 (0:Nat) (5:Nat)) False fun n44 =>
 (Eng.asInt IntKind.u8 (Eng.getC v38 (0:Nat) (6:Nat)) False fun n45 =>
 (Eng.asInt IntKind.u8 (Eng.getC v38 (0:Nat) (7:Nat)) False fun n46 =>
 (Eng.asInt IntKind.u8 (Eng.getC v38 (0:Nat) (8:Nat)) False fun n47 =>
 (Eng.asInt IntKind.u8 (Eng.getC v38 (0:Nat) (9:Nat)) False fun n48 =>
 (Eng.asInt IntKind.u8 (Eng.getC v38 (0:Nat) (10:Nat)) False fun n49 =>
 (Eng.asInt IntKind.u8 (Eng.getC v38 (0:Nat) (11:Nat)) False fun n50 =>
 (Eng.asInt IntKind.u8 (Eng.getC v38 (0:Nat) (12:Nat)) False fun n51 =>
 (Eng.asInt IntKind.u8 (Eng.getC v38 (0:Nat) (13:Nat)) False fun n52 =>
 (Eng.asInt IntKind.u8 (Eng.getC v38 (0:Nat) (14:Nat)) False fun n53 =>
 (Eng.asInt IntKind.u8 (Eng.getC v38 (0:Nat) (15:Nat)) False fun n54 =>
 (Eng.asInt IntKind.u8 (Eng.getC v38 (0:Nat) (16:Nat)) False fun n55 =>
 (Eng.asInt IntKind.u8 (Eng.getC v38 (0:Nat) (17:Nat)) False fun n56 =>
 (Eng.asInt IntKind.u8 (Eng.getC v38 (0:Nat) (18:Nat)) False fun n57 =>
 (Eng.asInt IntKind.u8 (Eng.getC v38 (0:Nat) (19:Nat)) False fun n58 =>
 K (n39,n40,n41,n42,n43,n44,n45,n46,n47,n48,n49,n50,n51,n52,n53,n54,n55,n56,n57,n58,()))))))))))))))))))))))
 else
 False))))))))))))))))))))))
def Lq1q_1p:Lp:=⟨204,[.trim 204],pT189,pH190,0⟩
def Lq1q_0 (xq0k:Tq0k) (K:Q91→Prop):(Q187→Prop)→Q187→Prop:=fun k4 x5 =>
 (if decide (x5.1.2.2.2.1 < (↑(List.length x5.2.2.2.1.1):Int)) then
 (Eng.asInt IntKind.u32 (Eng.getC x5.2.2.1 (0:Nat) (0:Nat)) False fun n6 =>
 (Eng.asInt IntKind.u32 (Eng.getC x5.2.2.1 (0:Nat) (1:Nat)) False fun n7 =>
 (Eng.asInt IntKind.u32 (Eng.getC x5.2.2.1 (0:Nat) (2:Nat)) False fun n8 =>
 (Eng.asInt IntKind.u32 (Eng.getC x5.2.2.1 (0:Nat) (3:Nat)) False fun n9 =>
 (Eng.asInt IntKind.u32 (Eng.getC x5.2.2.1 (0:Nat) (4:Nat)) False fun n10 =>
 (if 0≤w64 (x5.1.2.2.2.1+64)∧w64 (x5.1.2.2.2.1+64)≤(↑(List.length x5.2.2.2.1.1):Int) then
 (if 0≤x5.1.2.2.2.1∧x5.1.2.2.2.1≤w64 (x5.1.2.2.2.1+64) then
 xq0k (n6,n7,n8,n9,n10,()) (Eng.cutL x5.2.2.2.1.1 (Int.toNat x5.1.2.2.2.1) (Int.toNat (w64 (x5.1.2.2.2.1+64)) - Int.toNat x5.1.2.2.2.1)) (fun r11 =>
 (if (0:Nat) < List.length x5.2.2.1 then
 (lt (List.set x5.2.2.1 (0:Nat) (Eng.setE (List.getD x5.2.2.1 (0:Nat) Eng.V.bad) (0:Nat) [Eng.V.c (Value.int IntKind.u32 r11.1),Eng.V.c (Value.int IntKind.u32 r11.2.1),Eng.V.c (Value.int IntKind.u32 r11.2.2.1),Eng.V.c (Value.int IntKind.u32 r11.2.2.2.1),Eng.V.c (Value.int IntKind.u32 r11.2.2.2.2.1)])) fun v12 =>
 k4 (((),(),(),w64 (x5.1.2.2.2.1+64),()),x5.2.1,v12,x5.2.2.2))
 else
 False))
 else
 False)
 else
 False))))))
 else
 lp (Lq1q_1 K k4) (((),(),(),0,()),x5.2.1,x5.2.2.1,[Eng.V.agg [Eng.V.c (Value.int IntKind.u8 0),Eng.V.c (Value.int IntKind.u8 0),Eng.V.c (Value.int IntKind.u8 0),Eng.V.c (Value.int IntKind.u8 0),Eng.V.c (Value.int IntKind.u8 0),Eng.V.c (Value.int IntKind.u8 0),Eng.V.c (Value.int IntKind.u8 0),Eng.V.c (Value.int IntKind.u8 0),Eng.V.c (Value.int IntKind.u8 0),Eng.V.c (Value.int IntKind.u8 0),Eng.V.c (Value.int IntKind.u8 0),Eng.V.c (Value.int IntKind.u8 0),Eng.V.c (Value.int IntKind.u8 0),Eng.V.c (Value.int IntKind.u8 0),Eng.V.c (Value.int IntKind.u8 0),Eng.V.c (Value.int IntKind.u8 0),Eng.V.c (Value.int IntKind.u8 0),Eng.V.c (Value.int IntKind.u8 0),Eng.V.c (Value.int IntKind.u8 0),Eng.V.c (Value.int IntKind.u8 0)]],()))
def Lq1q_0p:Lp:=⟨60,[.trim 60],pT191,pH192,0⟩
def Yq1q (xq0h:Tq0h) (xq0k:Tq0k) (a0:(List Eng.V)) (K:Q91→Prop):Prop :=
 xq0h a0 (fun r1 r2 r3 =>
 lp (Lq1q_0 xq0k K) (((),(),(),0,()),[Eng.V.agg [Eng.V.c (Value.int IntKind.u8 0),Eng.V.c (Value.int IntKind.u8 0),Eng.V.c (Value.int IntKind.u8 0),Eng.V.c (Value.int IntKind.u8 0),Eng.V.c (Value.int IntKind.u8 0),Eng.V.c (Value.int IntKind.u8 0),Eng.V.c (Value.int IntKind.u8 0),Eng.V.c (Value.int IntKind.u8 0),Eng.V.c (Value.int IntKind.u8 0),Eng.V.c (Value.int IntKind.u8 0),Eng.V.c (Value.int IntKind.u8 0),Eng.V.c (Value.int IntKind.u8 0),Eng.V.c (Value.int IntKind.u8 0),Eng.V.c (Value.int IntKind.u8 0),Eng.V.c (Value.int IntKind.u8 0),Eng.V.c (Value.int IntKind.u8 0),Eng.V.c (Value.int IntKind.u8 0),Eng.V.c (Value.int IntKind.u8 0),Eng.V.c (Value.int IntKind.u8 0),Eng.V.c (Value.int IntKind.u8 0)]],[Eng.V.agg [Eng.V.c (Value.int IntKind.u32 1732584193),Eng.V.c (Value.int IntKind.u32 4023233417),Eng.V.c (Value.int IntKind.u32 2562383102),Eng.V.c (Value.int IntKind.u32 271733878),Eng.V.c (Value.int IntKind.u32 3285377520)]],(r1,r2,r3),()))
def Xq1q:Tq1q:=Yq1q Xq0h Xq0k
def Jq1q (X:Tq1q):Inst:=mkI 42 pL75 .nil pL100 .nil X
def Iq1q:Inst:=Jq1q Xq1q
theorem Eq1q (xq0h:Tq0h) (xq0k:Tq0k):EqF Tryz.prog 41 gives Tryz.f42 [Jq0h xq0h,Jq0k xq0k] [Lq1q_0p,Lq1q_1p] (Jq1q (Yq1q xq0h xq0k)):=fun x y K=>by kernel_rfl
theorem Iq1q_ok:InstOk Tryz.prog G.1 Iq1q:=iok (gives:=gives) [Lq1q_0p,Lq1q_1p] (okCons Iq0h_ok (okCons Iq0k_ok okNil)) 41 follows Tryz.func42 (by kernel_rfl) (fun x=>by kernel_rfl) (Eq1q Xq0h Xq0k)
abbrev Tq0z:Type:=ByteArray→(Q91→Prop)→Prop
def Yq0z (xq14:Tq14) (xq0i:Tq0i) (xq1q:Tq1q) (a0:ByteArray) (K:Q91→Prop):Prop :=
 xq14 a0 (fun r1 r2 r3 =>
 xq0i r1 (fun r4 =>
 xq1q (Eng.bytesV r4) (fun r5 =>
 K r5)))
def Xq0z:Tq0z:=Yq0z Xq14 Xq0i Xq1q
def Jq0z (X:Tq0z):Inst:=mkI 13 pL0 .nil pL100 .nil X
def Iq0z:Inst:=Jq0z Xq0z
theorem Eq0z (xq14:Tq14) (xq0i:Tq0i) (xq1q:Tq1q):EqF Tryz.prog 8 gives Tryz.f13 [Jq14 xq14,Jq0i xq0i,Jq1q xq1q] [] (Jq0z (Yq0z xq14 xq0i xq1q)):=fun x y K=>by kernel_rfl
theorem Iq0z_ok:InstOk Tryz.prog G.1 Iq0z:=iok (gives:=gives) [] (okCons Iq14_ok (okCons Iq0i_ok (okCons Iq1q_ok okNil))) 8 follows Tryz.func13 (by kernel_rfl) (fun x=>by kernel_rfl) (Eq0z Xq14 Xq0i Xq1q)
end Go.Proofs.YtdjldmolhkkipaaGreatDoor
end
