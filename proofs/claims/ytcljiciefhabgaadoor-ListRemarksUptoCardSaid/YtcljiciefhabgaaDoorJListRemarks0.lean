/- What the functions come to in plain data, with proofs, and what that answers. -/
import Derived.Test.YtcljiciefhabgaaDoorGListRemarks2
import Derived.Shelf.Strings.Builder1
import Derived.Shelf.Strings.Builder2
import Derived.Shelf.Strings.OnBuilder
import Derived.Shelf.Strings.BuilderF
import Derived.Shelf.Utf8.RuneCount
import Derived.Shelf.Strings.Builder2Cap
import Derived.Shelf.Strconv.Itoa0
import Derived.Shelf.Strconv.Itoa1
import Derived.Shelf.LaysM
import Derived.Shelf.Strconv.Itoa2
import Derived.Shelf.Strconv.Itoa3
import Derived.Shelf.Strings.Search1
import Derived.Shelf.Strings.Search2
import Derived.Shelf.Strings.Search3
import Derived.Shelf.Strings.Cut
import Derived.Shelf.Strings.Count
import Derived.Shelf.Strings.Shaped
import Derived.Shelf.Strings.Prefix
import Derived.Shelf.Strings.Split
import Derived.Shelf.Strings.SplitShaped
import Derived.Shelf.Unicode.Decode
import Derived.Shelf.Strings.RuneCount
import Derived.Shelf.Strings.Explode
import Derived.Shelf.Bits.Mul64
import Derived.Shelf.Unicode.DecodeSlow
import Derived.Shelf.Unicode.DecodeAny
import Derived.Test.YtcljiciefhabgaaDoorProg
import Derived.Lib.AppendIntMem
import Derived.Lib.ItoaMem
import Derived.Lib.ItoaNum
import Derived.Lib.Join
import Derived.Lib.LaidTab
import Derived.Lib.Strings
import Derived.Lib.Atoi
import Derived.Laws.Concat
import Derived.Laws.RangeAny
import Derived.Lib.Bytealg
section
set_option linter.unusedVariables false
set_option linter.unusedSimpArgs false
namespace Go.Proofs
open Go.Shelf
def Tryd.lays156_ren:Go.Shelf.Ren:=⟨fun | 156=>31 | 165=>43 | 166=>44 | 169=>45 | 240=>60 | 241=>61 | 276=>79 | 277=>80 | n=>n,fun | 31=>36 | 9=>9 | 3=>3 | 4=>4 | 0=>0 | 20=>20 | 72=>87 | 76=>91 | 70=>85 | 37=>81 | 75=>90 | 127=>110 | 164=>129 | 5=>5 | 80=>49 | n=>n,fun | n=>n⟩
theorem Tryd.lays156:Go.Proofs.Lays.n156 Tryd.prog Tryd.lays156_ren:={
 mixed:=by kernel_rfl
 f156:=Tryd.func31.trans (congrArg some (by kernel_rfl))
 f165:=Tryd.func43.trans (congrArg some (by kernel_rfl))
 f166:=Tryd.func44.trans (congrArg some (by kernel_rfl))
 f169:=Tryd.func45.trans (congrArg some (by kernel_rfl))
 f240:=Tryd.func60.trans (congrArg some (by kernel_rfl))
 f241:=Tryd.func61.trans (congrArg some (by kernel_rfl))
 f276:=Tryd.func79.trans (congrArg some (by kernel_rfl))
 f277:=Tryd.func80.trans (congrArg some (by kernel_rfl))
 t0:=Tryd.underlying0
 a0:=Tryd.isAgg0
 z0:=Tryd.sizeOf0
 v0:=Tryd.zeroValue0
 t3:=Tryd.underlying3
 a3:=Tryd.isAgg3
 z3:=Tryd.sizeOf3
 v3:=Tryd.zeroValue3
 t4:=Tryd.underlying4
 a4:=Tryd.isAgg4
 z4:=Tryd.sizeOf4
 v4:=Tryd.zeroValue4
 t9:=Tryd.underlying9
 a9:=Tryd.isAgg9
 z9:=Tryd.sizeOf9
 v9:=Tryd.zeroValue9
 t20:=Tryd.underlying20
 a20:=Tryd.isAgg20
 z20:=Tryd.sizeOf20
 v20:=Tryd.zeroValue20
 t31:=Tryd.underlying36
 a31:=Tryd.isAgg36
 z31:=Tryd.sizeOf36
 v31:=Tryd.zeroValue36
 t37:=Tryd.underlying81
 a37:=Tryd.isAgg81
 z37:=Tryd.sizeOf81
 v37:=Tryd.zeroValue81
 t70:=Tryd.underlying85
 a70:=Tryd.isAgg85
 z70:=Tryd.sizeOf85
 v70:=Tryd.zeroValue85
 t72:=Tryd.underlying87
 a72:=Tryd.isAgg87
 z72:=Tryd.sizeOf87
 v72:=Tryd.zeroValue87
 t75:=Tryd.underlying90
 a75:=Tryd.isAgg90
 z75:=Tryd.sizeOf90
 v75:=Tryd.zeroValue90
 t76:=Tryd.underlying91
 a76:=Tryd.isAgg91
 z76:=Tryd.sizeOf91
 v76:=Tryd.zeroValue91
 t127:=Tryd.underlying110
 a127:=Tryd.isAgg110
 z127:=Tryd.sizeOf110
 v127:=Tryd.zeroValue110
 t164:=Tryd.underlying129
 a164:=Tryd.isAgg129
 z164:=Tryd.sizeOf129
 v164:=Tryd.zeroValue129 }
theorem Tryd.Builder_Extra_156:Builder.Extra Tryd.prog Tryd.lays156_ren:={
 sizeBuilder:=by kernel_rfl
 liesBuilder:=by kernel_rfl
 t5:=Tryd.underlying5
 a5:=Tryd.isAgg5
 z5:=Tryd.sizeOf5
 v5:=Tryd.zeroValue5
 infoByte:=by kernel_rfl
 cellsByte:=by kernel_rfl
 sizeByte:=by kernel_rfl
 neB5:=by decide }
open Go.RowKit in
theorem Tryd.strings_Join_none (a:Option Addr) (c:Nat) (sep:ByteArray) (w:World) :
  Calls Tryd.prog 31 #[.slice a 0 c,.string sep] w fun e w'=>e = .returned (.string ⟨#[]⟩)∧w'=w:=Any.strings_Join_none Tryd.lays156 Tryd.Builder_Extra_156 a c sep w
open Go.RowKit in
theorem Tryd.strings_Join (bk o c:Nat) (xs:List ByteArray) (sep:ByteArray) (w:World) (hcells:∀ (j:Nat) x,xs[j]? = some x→w.cell? ⟨bk,o+j,none⟩=some (.string x)) (hbk:bk < w.heap.size) (hN:xs.length≤140737488355328) (hcap:xs.length≤c) (hlen:(Lib.join (xs.map (·.data.toList)) sep.data.toList).length≤140737488355328) :
  Calls Tryd.prog 31 #[.slice (some ⟨bk,o,none⟩) xs.length c,.string sep] w fun e w'=>e = .returned (.string ⟨(Lib.join (xs.map (·.data.toList)) sep.data.toList).toArray⟩)∧Below w.heap.size w w':=Any.strings_Join Tryd.lays156 Tryd.Builder_Extra_156 bk o c xs sep w hcells hbk hN hcap hlen
def Tryd.laysM171_ren:Go.Shelf.Ren:=⟨fun | 171=>18 | 243=>32 | 246=>46 | 283=>62 | 284=>63 | 285=>64 | 286=>65 | 129=>82 | 317=>81 | 318=>83 | 319=>84 | 320=>85 | 337=>93 | 338=>94 | n=>n,fun | 3=>3 | 9=>9 | 2=>2 | 4=>4 | 171=>111 | 0=>0 | 53=>104 | 37=>81 | 5=>5 | 173=>114 | 212=>134 | 51=>44 | 20=>20 | 213=>135 | 46=>71 | 232=>148 | 233=>149 | n=>n,fun | 17=>0 | 18=>4 | 19=>5 | n=>n⟩
theorem Tryd.laysM171:Go.Proofs.LaysM.n171 Tryd.prog Tryd.laysM171_ren:={
 mixed:=by kernel_rfl
 f129:=Tryd.func82.trans (congrArg some (by kernel_rfl))
 f171:=Tryd.func18.trans (congrArg some (by kernel_rfl))
 f243:=Tryd.func32.trans (congrArg some (by kernel_rfl))
 f246:=Tryd.func46.trans (congrArg some (by kernel_rfl))
 f283:=Tryd.func62.trans (congrArg some (by kernel_rfl))
 f284:=Tryd.func63.trans (congrArg some (by kernel_rfl))
 f285:=Tryd.func64.trans (congrArg some (by kernel_rfl))
 f286:=Tryd.func65.trans (congrArg some (by kernel_rfl))
 f317:=Tryd.func81.trans (congrArg some (by kernel_rfl))
 f318:=Tryd.func83.trans (congrArg some (by kernel_rfl))
 f319:=Tryd.func84.trans (congrArg some (by kernel_rfl))
 f320:=Tryd.func85.trans (congrArg some (by kernel_rfl))
 f337:=Tryd.func93.trans (congrArg some (by kernel_rfl))
 f338:=Tryd.func94.trans (congrArg some (by kernel_rfl))
 t0:=Tryd.underlying0
 a0:=Tryd.isAgg0
 z0:=Tryd.sizeOf0
 v0:=Tryd.zeroValue0
 t2:=Tryd.underlying2
 a2:=Tryd.isAgg2
 z2:=Tryd.sizeOf2
 v2:=Tryd.zeroValue2
 t3:=Tryd.underlying3
 a3:=Tryd.isAgg3
 z3:=Tryd.sizeOf3
 v3:=Tryd.zeroValue3
 t4:=Tryd.underlying4
 a4:=Tryd.isAgg4
 z4:=Tryd.sizeOf4
 v4:=Tryd.zeroValue4
 t5:=Tryd.underlying5
 a5:=Tryd.isAgg5
 z5:=Tryd.sizeOf5
 v5:=Tryd.zeroValue5
 t9:=Tryd.underlying9
 a9:=Tryd.isAgg9
 z9:=Tryd.sizeOf9
 v9:=Tryd.zeroValue9
 t20:=Tryd.underlying20
 a20:=Tryd.isAgg20
 z20:=Tryd.sizeOf20
 v20:=Tryd.zeroValue20
 t37:=Tryd.underlying81
 a37:=Tryd.isAgg81
 z37:=Tryd.sizeOf81
 v37:=Tryd.zeroValue81
 t46:=Tryd.underlying71
 a46:=Tryd.isAgg71
 z46:=Tryd.sizeOf71
 v46:=Tryd.zeroValue71
 t51:=Tryd.underlying44
 a51:=Tryd.isAgg44
 z51:=Tryd.sizeOf44
 v51:=Tryd.zeroValue44
 t53:=Tryd.underlying104
 a53:=Tryd.isAgg104
 z53:=Tryd.sizeOf104
 v53:=Tryd.zeroValue104
 t171:=Tryd.underlying111
 a171:=Tryd.isAgg111
 z171:=Tryd.sizeOf111
 v171:=Tryd.zeroValue111
 t173:=Tryd.underlying114
 a173:=Tryd.isAgg114
 z173:=Tryd.sizeOf114
 v173:=Tryd.zeroValue114
 t212:=Tryd.underlying134
 a212:=Tryd.isAgg134
 z212:=Tryd.sizeOf134
 v212:=Tryd.zeroValue134
 t213:=Tryd.underlying135
 a213:=Tryd.isAgg135
 z213:=Tryd.sizeOf135
 t232:=Tryd.underlying148
 a232:=Tryd.isAgg148
 z232:=Tryd.sizeOf148
 v232:=Tryd.zeroValue148
 t233:=Tryd.underlying149
 a233:=Tryd.isAgg149
 z233:=Tryd.sizeOf149
 v233:=Tryd.zeroValue149
 g17:=by kernel_rfl
 g18:=by kernel_rfl
 g19:=by kernel_rfl
 i0:=by kernel_rfl
 i2:=by kernel_rfl
 i3:=by kernel_rfl
 i4:=by kernel_rfl
 i5:=by kernel_rfl
 i9:=by kernel_rfl
 i20:=by kernel_rfl
 i37:=by kernel_rfl
 i46:=by kernel_rfl
 i51:=by kernel_rfl
 i53:=by kernel_rfl
 i171:=by kernel_rfl
 i173:=by kernel_rfl
 i212:=by kernel_rfl
 i232:=by kernel_rfl
 i233:=by kernel_rfl
 m17:=by kernel_rfl
 m18:=by kernel_rfl
 m19:=by kernel_rfl }
open Go.RowKit Go.Sort Go.Lib in
theorem Tryd.strconv_Itoa (n:Int) (h0:-9223372036854775808≤n) (h1:n≤9223372036854775807) (w:World) (htab:Lib.TabIs Tryd.prog w "internal/strconv.uint64pow10" .u64 Lib.pow10Tab) :
  Calls Tryd.prog 18 #[.int .i64 n] w fun e w'=>e = .returned (.string ⟨(Lib.itoa n).toArray⟩)∧∃ k os,w'=grow (w.drewN k) os:=Any.strconv_Itoa Tryd.laysM171 n h0 h1 w htab
def Tryd.lays217_ren:Go.Shelf.Ren:=⟨fun | 217=>89 | 266=>97 | n=>n,fun | 9=>9 | 5=>5 | 3=>3 | n=>n,fun | n=>n⟩
theorem Tryd.lays217:Go.Proofs.Lays.n217 Tryd.prog Tryd.lays217_ren:={
 mixed:=by kernel_rfl
 f217:=Tryd.func89.trans (congrArg some (by kernel_rfl))
 f266:=Tryd.func97.trans (congrArg some (by kernel_rfl))
 t3:=Tryd.underlying3
 a3:=Tryd.isAgg3
 z3:=Tryd.sizeOf3
 v3:=Tryd.zeroValue3
 t5:=Tryd.underlying5
 a5:=Tryd.isAgg5
 z5:=Tryd.sizeOf5
 v5:=Tryd.zeroValue5
 t9:=Tryd.underlying9
 a9:=Tryd.isAgg9
 z9:=Tryd.sizeOf9
 v9:=Tryd.zeroValue9 }
open Go.RowKit Go.Lib in
theorem Tryd.stringslite_IndexByte (s:ByteArray) (c:Int) (w:World) :
  Calls Tryd.prog 89 #[.string s,.int .u8 c] w fun e w'=>e = .returned (.int .i64 (Lib.indexByte s.data.toList c.toNat.toUInt8))∧w'=w:=Any.stringslite_IndexByte Tryd.lays217 s c w
def Tryd.lays138_ren:Go.Shelf.Ren:=⟨fun | 138=>57 | 195=>75 | 218=>77 | 143=>58 | 219=>78 | 217=>89 | 225=>90 | 224=>91 | 267=>92 | 266=>97 | 314=>98 | n=>n,fun | 9=>9 | 3=>3 | 4=>4 | 5=>5 | 0=>0 | 46=>71 | 146=>146 | 51=>44 | n=>n,fun | 1=>1 | n=>n⟩
theorem Tryd.lays138:Go.Proofs.Lays.n138 Tryd.prog Tryd.lays138_ren:={
 mixed:=by kernel_rfl
 f138:=Tryd.func57.trans (congrArg some (by kernel_rfl))
 f143:=Tryd.func58.trans (congrArg some (by kernel_rfl))
 f195:=Tryd.func75.trans (congrArg some (by kernel_rfl))
 f217:=Tryd.func89.trans (congrArg some (by kernel_rfl))
 f218:=Tryd.func77.trans (congrArg some (by kernel_rfl))
 f219:=Tryd.func78.trans (congrArg some (by kernel_rfl))
 f224:=Tryd.func91.trans (congrArg some (by kernel_rfl))
 f225:=Tryd.func90.trans (congrArg some (by kernel_rfl))
 f266:=Tryd.func97.trans (congrArg some (by kernel_rfl))
 f267:=Tryd.func92.trans (congrArg some (by kernel_rfl))
 f314:=Tryd.func98.trans (congrArg some (by kernel_rfl))
 t0:=Tryd.underlying0
 a0:=Tryd.isAgg0
 z0:=Tryd.sizeOf0
 v0:=Tryd.zeroValue0
 t3:=Tryd.underlying3
 a3:=Tryd.isAgg3
 z3:=Tryd.sizeOf3
 v3:=Tryd.zeroValue3
 t4:=Tryd.underlying4
 a4:=Tryd.isAgg4
 z4:=Tryd.sizeOf4
 v4:=Tryd.zeroValue4
 t5:=Tryd.underlying5
 a5:=Tryd.isAgg5
 z5:=Tryd.sizeOf5
 v5:=Tryd.zeroValue5
 t9:=Tryd.underlying9
 a9:=Tryd.isAgg9
 z9:=Tryd.sizeOf9
 v9:=Tryd.zeroValue9
 t46:=Tryd.underlying71
 a46:=Tryd.isAgg71
 z46:=Tryd.sizeOf71
 v46:=Tryd.zeroValue71
 t51:=Tryd.underlying44
 a51:=Tryd.isAgg44
 z51:=Tryd.sizeOf44
 v51:=Tryd.zeroValue44
 t146:=Tryd.underlying146
 a146:=Tryd.isAgg146
 z146:=Tryd.sizeOf146
 v146:=Tryd.zeroValue146
 g1:=by kernel_rfl }
open Go.RowKit Go.Lib in
theorem Tryd.strings_Count_one (s:ByteArray) (c:UInt8) (w:World) :
  Calls Tryd.prog 57 #[.string s,.string ⟨#[c]⟩] w fun e w'=>e = .returned (.int .i64 (Lib.countByte s.data.toList c))∧w'=w:=Any.strings_Count_one Tryd.lays138 s c w
end Go.Proofs
end
section
set_option linter.unusedVariables false
set_option linter.unusedSimpArgs false
namespace Go.Proofs.YtcljiciefhabgaaDoor
open Go Go.Proofs.YtcljiciefhabgaaDoor.Eng Go.RowKit
def gives:FuncId→Bool:=fun _=>false
theorem follows:Tryd.prog.follows .mixedOrders=true:=by kernel_rfl
abbrev Gs:={l:List (Nat×Obj) // ∀ w:World,(∀ x∈l,w.heap[x.1]? = some x.2)→Lib.TabIs Tryd.prog w "internal/strconv.uint64pow10" .u64 Lib.pow10Tab}
variable {G:Gs}
abbrev Titoa:Type:=Int→(ByteArray→Prop)→Prop
abbrev Tq16:Type:=ByteArray→Int→(Int→Prop)→Prop
def Xitoa (n:Int) (K:ByteArray→Prop):Prop:=(-9223372036854775808≤n∧n≤9223372036854775807)∧K ⟨(Lib.itoa n).toArray⟩
def Jitoa (X:Int→(ByteArray→Prop)→Prop):Inst:=⟨18,(.cons (.int .i64) .nil),.nil,(.cons .str .nil),.nil,fun x y K=>X x.1 (fun u0=>K (u0,()) ())⟩
def Iitoa:Inst:=Jitoa Xitoa
theorem Iitoa_ok:InstOk Tryd.prog G.1 Iitoa:=fun ⟨n,_⟩ y K ⟨h1,h3⟩ =>
 (told (args:=[.int .i64 n]) (rs:=[.string ⟨(Lib.itoa n).toArray⟩]) rfl fun w hw=>(Tryd.strconv_Itoa n h1.1 h1.2 w (G.2 w hw)).mono fun e w' ⟨he,k,os,hw⟩=>⟨he,by subst hw; exact Lib.below_grow _ _ (Nat.le_refl _) _ _⟩).mono fun rs h' ⟨e1,e2⟩=>⟨(⟨(Lib.itoa n).toArray⟩,()),(),e1,e2,h3⟩
def Xq16 (s:ByteArray) (c:Int) (K:Int→Prop):Prop:=K (Lib.indexByte s.data.toList c.toNat.toUInt8)
def Jq16 (X:ByteArray→Int→(Int→Prop)→Prop):Inst:=⟨89,(.cons .str (.cons (.int .u8) .nil)),.nil,(.cons (.int .i64) .nil),.nil,fun x y K=>X x.1 x.2.1 (fun u0=>K (u0,()) ())⟩
def Iq16:Inst:=Jq16 Xq16
theorem Iq16_ok:InstOk Tryd.prog G.1 Iq16:=fun ⟨s,c,_⟩ y K h3 =>
 (told (args:=[.string s,.int .u8 c]) (rs:=[.int .i64 (Lib.indexByte s.data.toList c.toNat.toUInt8)]) rfl fun w _=>(Tryd.stringslite_IndexByte s c w).mono fun e w' ⟨he,hw⟩=>⟨he,by subst hw; exact Below.refl _ _⟩).mono fun rs h' ⟨e1,e2⟩=>⟨(_,()),(),e1,e2,h3⟩
abbrev Tjoin:Type:=List V→ByteArray→(ByteArray→Prop)→Prop
abbrev Tq1n:Type:=ByteArray→ByteArray→(Int→Prop)→Prop
def cs (b:ByteArray):V:=.c (.string b)
def Xq1n (s sep:ByteArray) (K:Int→Prop):Prop:=∃ c,sep=⟨#[c]⟩∧K (Lib.countByte s.data.toList c)
def Jq1n (X:Tq1n):Inst:=⟨57,(.cons .str (.cons .str .nil)),.nil,(.cons (.int .i64) .nil),.nil,fun x y K=>X x.1 x.2.1 (fun u0=>K (u0,()) ())⟩
def Iq1n:Inst:=Jq1n Xq1n
theorem Iq1n_ok:InstOk Tryd.prog G.1 Iq1n:=fun ⟨s,sep,_⟩ y K ⟨c,hc,h3⟩ =>
 (told (args:=[.string s,.string sep]) (rs:=[.int .i64 (Lib.countByte s.data.toList c)]) rfl fun w _=>by
  subst hc
  exact (Tryd.strings_Count_one s c w).mono fun e w' ⟨he,hw⟩=>⟨he,by subst hw; exact Below.refl _ _⟩).mono fun rs h' ⟨e1,e2⟩=>⟨(_,()),(),e1,e2,h3⟩
def Xjoin (xs:List V) (sep:ByteArray) (K:ByteArray→Prop):Prop:=∃ bs:List ByteArray,xs=bs.map cs∧bs.length≤1000000∧(Lib.join (bs.map (·.data.toList)) sep.data.toList).length≤100000000∧K ⟨(Lib.join (bs.map (·.data.toList)) sep.data.toList).toArray⟩
def Jjoin (X:Tjoin):Inst:=⟨31,(.cons (.slN 1) (.cons .str .nil)),.nil,(.cons .str .nil),.nil,fun x y K=>X x.1 x.2.1 (fun u0=>K (u0,()) ())⟩
def Ijoin:Inst:=Jjoin Xjoin
theorem Ijoin_ok:InstOk Tryd.prog G.1 Ijoin:=fun ⟨xs,sep,_⟩ y K ⟨bs,hx,hn,hl,hk⟩ w F ρ vs hG hlen hv hh=>by
 subst hx
 have hl2:vs.size=2:=by
  have:2=vs.size:=by simpa [Ijoin,Jjoin,PL.enc] using hlen
  omega
 have hl:(Lib.join (bs.map (·.data.toList)) sep.data.toList).length≤100000000:=hl
 obtain ⟨v0,v1,rfl⟩:∃ v0 v1,vs = #[v0,v1]:=by
  obtain ⟨l⟩:=vs
  match l,hl2 with
  | [a,b],_=>exact ⟨a,b,rfl⟩
 have h0:=hv 0 _ v0 rfl rfl
 have h1:=hv 1 _ v1 rfl rfl
 have h1':v1 = .string sep:=by
  have h1:VR _ F ρ (.c (.string sep)) v1:=h1
  cases h1; rfl
 subst h1'
 have h0:VR (clOf w) F ρ (.sl 1 false (bs.map cs)) v0:=h0
 cases h0 with
 | @sl _ _ _ a n cap g p cf hnn hc hf ha hw hF hvv =>
  have hnn':n=bs.length:=by rw [hnn,List.length_map]
  have key:Calls Tryd.prog 31 #[.slice a n cap,.string sep] w fun e w'=>e = .returned (.string ⟨(Lib.join (bs.map (·.data.toList)) sep.data.toList).toArray⟩)∧Below w.heap.size w w':=by
   cases bs with
   | nil =>
    have:n=0:=hnn'
    subst this
    exact (Tryd.strings_Join_none a cap sep w).mono fun e w' ⟨he,hw⟩=>⟨he,by subst hw; exact Below.refl _ _⟩
   | cons b0 bs0 =>
    have ha':a=some ⟨g,p,none⟩:=ha.resolve_left (by rw [hnn'] at hc; simp at hc; omega)
    subst ha'; subst hnn'
    have cell:∀ (j:Nat) x,(b0 :: bs0)[j]? = some x→F g (p+j)∧w.cell? ⟨g,p+j,none⟩=some (.string x):=by
     intro j x hj
     have hj':((b0 :: bs0).map cs)[j]? = some (cs x):=by rw [List.getElem?_map,hj]; rfl
     obtain ⟨q1,q2,q3⟩:=hF j (cs x) 0 hj' (by decide)
     have q4:=hvv j (cs x) 0 (cs x) hj' rfl
     rw [Nat.mul_one,Nat.add_zero] at q1 q2
     refine ⟨q1,?_⟩
     have q5:VR (clOf w) F ρ (.c (.string x)) (cf j 0):=q4
     generalize cf j 0=z at q2 q5
     cases q5
     exact q2
    have hg:g < w.heap.size:=hh.fin g (p+0) (cell 0 b0 rfl).1
    exact Tryd.strings_Join g p cap (b0 :: bs0) sep w (fun j x hj=>(cell j x hj).2) hg (by omega) hc (by omega)
  refine key.mono fun e w' ⟨he,hb⟩=>?_
  exact ⟨_,[.c (.string ⟨(Lib.join (bs.map (·.data.toList)) sep.data.toList).toArray⟩)],[],F,ρ,he,.c rfl,back_below hb hh,(⟨(Lib.join (bs.map (·.data.toList)) sep.data.toList).toArray⟩,()),(),rfl,rfl,hk⟩
theorem gs_of {w:World} (h:Lib.TabIs Tryd.prog w "internal/strconv.uint64pow10" .u64 Lib.pow10Tab):∃ G:Gs,∀ x∈G.1,w.heap[x.1]? = some x.2:=by
 unfold Lib.TabIs World.var? at h
 cases hg:Tryd.prog.globalNamed "internal/strconv.uint64pow10" with
 | none=>rw [hg] at h; cases h
 | some g =>
  rw [hg] at h
  simp only [Option.bind_some] at h
  cases ho:w.heap[g]? with
  | none=>rw [ho] at h; cases h
  | some o =>
   rw [ho] at h
   refine ⟨⟨[(g,o)],fun w' hw=>?_⟩,fun x hx=>?_⟩
   ·have:=hw (g,o) (.head _)
    unfold Lib.TabIs World.var?
    rw [hg]
    simp only [Option.bind_some,this]
    exact h
   ·simp only [List.mem_singleton] at hx
    subst hx; exact ho
theorem globN:Tryd.prog.globalNamed "internal/strconv.uint64pow10" = some 0:=by kernel_rfl
end Go.Proofs.YtcljiciefhabgaaDoor
end
section
set_option linter.unusedVariables false
set_option linter.unusedSimpArgs false
namespace Go.Proofs.YtcljiciefhabgaaDoor
open Go Go.Proofs.YtcljiciefhabgaaDoor.Eng
set_option maxRecDepth 100000
set_option maxHeartbeats 4000000
variable {G:Gs}
abbrev pL0:PL:=(.cons .str .nil)
abbrev pL1:PL:=(.cons .str (.cons .str .nil))
abbrev pL2:PL:=(.cons (.int .i64) .nil)
abbrev Q3:Type:=(ByteArray×ByteArray×Int×Int×Unit×Unit×Int×Unit)×List Eng.V×Unit
abbrev pT4:PT:=(.cons 0 .str (.cons 1 .str (.cons 2 (.int .i64) (.cons 3 (.int .i64) (.cons 8 (.nl 0) (.cons 9 (.sla 560) (.cons 10 (.int .i64) .nil)))))))
abbrev pH5:PH:=(.cons 560 (.arr 1 true false) .nil)
abbrev pL6:PL:=(.cons .str (.cons .str (.cons (.int .i64) (.cons (.int .i64) .nil))))
abbrev pL7:PL:=(.cons (.sla 0) .nil)
abbrev pH8:PH:=(.cons 0 (.arrB 1) .nil)
abbrev pL9:PL:=(.cons .bool .nil)
abbrev Q10:Type:=(Unit×Unit×Int×Int×Unit)×(List Eng.V×Bool×Bool)×Unit
abbrev pT11:PT:=(.cons 2 (.nl 0) (.cons 3 (.sla 176) (.cons 20 (.int .i64) (.cons 21 (.int .i64) .nil))))
abbrev pH12:PH:=(.cons 176 (.arrB 1) .nil)
abbrev Q13:Type:=(Unit×Nat×Int×Int×Unit)×(List Eng.V×Bool×Bool)×Unit
abbrev pT14:PT:=(.cons 2 (.nl 0) (.cons 3 (.slh 176) (.cons 20 (.int .i64) (.cons 21 (.int .i64) .nil))))
abbrev Q15:Type:=(ByteArray×Unit×Int×Unit×Unit)×(ByteArray×Nat)×List Eng.V×Unit
abbrev pT16:PT:=(.cons 0 .str (.cons 2 (.sla 736) (.cons 3 (.int .i64) (.cons 9 (.it 208) .nil))))
abbrev pH17:PH:=(.cons 208 .iter (.cons 736 (.arr 1 true false) .nil))
abbrev pL18:PL:=(.cons (.int .u64) .nil)
abbrev pL19:PL:=(.cons (.int .u64) (.cons (.int .u64) .nil))
abbrev pL20:PL:=(.cons (.int .i64) (.cons (.int .i64) .nil))
abbrev pL21:PL:=(.cons (.int .i64) (.cons .bool .nil))
abbrev Q22:Type:=(ByteArray×Int×Bool×Unit×Int×Int×Unit)×List Eng.V×Unit
abbrev pT23:PT:=(.cons 0 .str (.cons 2 (.int .i64) (.cons 3 .bool (.cons 11 (.sla 240) (.cons 12 (.int .i64) (.cons 13 (.int .i64) .nil))))))
abbrev pH24:PH:=(.cons 240 (.arr 1 true false) .nil)
abbrev Q25:Type:=ByteArray×Unit×Unit×Bool×Unit
abbrev Q26:Type:=(Int×Unit×Unit×Unit×Int×Int×Unit)×(ByteArray×Unit×Unit×Bool×Unit)×(ByteArray×Unit×Unit×Bool×Unit)×(List Eng.V×Bool×Bool)×List Eng.V×Unit
abbrev pT27:PT:=(.cons 2 (.int .i64) (.cons 6 (.ptr 160 0) (.cons 7 (.ptr 176 0) (.cons 17 (.sla 288) (.cons 18 (.int .i64) (.cons 19 (.int .i64) .nil))))))
abbrev pH28:PH:=(.cons 160 (.cells [.str,.sl 1,.sl 1,.bool] (.cons .str (.cons (.nl 1) (.cons (.nl 1) (.cons .bool .nil))))) (.cons 176 (.cells [.str,.sl 1,.sl 1,.bool] (.cons .str (.cons (.sla 288) (.cons (.sla 1280) (.cons .bool .nil))))) (.cons 288 (.arrB 1) (.cons 1280 (.arr 1 true false) .nil))))
abbrev pL29:PL:=(.cons .str (.cons .str (.cons (.int .i64) .nil)))
abbrev pL30:PL:=(.cons (.agg (.cons .str (.cons (.sla 0) (.cons (.sla 1) (.cons .bool .nil))))) .nil)
abbrev pH31:PH:=(.cons 0 (.arrB 1) (.cons 1 (.arrB 1) .nil))
abbrev pL32:PL:=(.cons (.int .i32) .nil)
abbrev pL33:PL:=(.cons (.int .u32) (.cons .bool .nil))
abbrev Q34:Type:=(Int×Bool×Unit×Unit)×(ByteArray×Nat)×Unit
abbrev pT35:PT:=(.cons 2 (.int .u32) (.cons 3 .bool (.cons 16 (.it 320) .nil)))
abbrev pH36:PH:=(.cons 320 .iter .nil)
abbrev Q37:Type:=Int×Int×Int×Int×Int×Unit
abbrev Q38:Type:=(Unit×Bool×Unit×Int×Int×Unit)×List Eng.V×(List Eng.V×Bool×Bool)×Unit
abbrev pT39:PT:=(.cons 2 (.pea 96) (.cons 3 .bool (.cons 13 (.sla 192) (.cons 14 (.int .i64) (.cons 15 (.int .i64) .nil)))))
abbrev pH40:PH:=(.cons 96 (.arr 5 true false) (.cons 192 (.arrB 1) .nil))
abbrev pL41:PL:=(.cons (.agg (.cons (.int .u32) (.cons (.int .u32) (.cons (.int .u32) (.cons (.int .u32) (.cons (.int .u32) .nil)))))) (.cons .bool .nil))
abbrev pL42:PL:=(.cons .str (.cons .str (.cons .bool .nil)))
abbrev Q43:Type:=(Unit×Unit×Int×Int×Unit)×(List Eng.V×Bool×Bool)×List Eng.V×Unit
abbrev pT44:PT:=(.cons 2 (.sla 368) (.cons 6 (.sla 160) (.cons 7 (.int .i64) (.cons 8 (.int .i64) .nil))))
abbrev pH45:PH:=(.cons 160 (.arrB 1) (.cons 368 (.arr 4 true false) .nil))
abbrev pH46:PH:=(.cons 0 (.arrB 4) .nil)
abbrev pL47:PL:=(.cons (.int .i64) (.cons (.int .i64) (.cons .bool .nil)))
abbrev pL48:PL:=(.cons (.slN 3) .nil)
abbrev pH49:PH:=(.cons 0 (.arrB 3) .nil)
abbrev pL50:PL:=(.cons (.int .i64) (.cons (.int .i64) (.cons (.int .i64) (.cons .bool .nil))))
abbrev Q51:Type:=Int×Int×Bool×Unit
abbrev pL52:PL:=(.cons (.int .i64) (.cons (.agg (.cons (.int .i64) (.cons (.int .i64) (.cons .bool .nil)))) (.cons (.int .i64) .nil)))
abbrev Q53:Type:=List Eng.V×Bool×Int×Unit
abbrev Q54:Type:=(Unit×Int×Int×Int×List Eng.V×Int×Int×Unit)×(List Eng.V×Bool×Int×Unit)×Unit
abbrev pT55:PT:=(.cons 1 (.ptr 80 0) (.cons 2 (.int .i64) (.cons 3 (.int .i64) (.cons 4 (.int .i64) (.cons 11 (.slN 3) (.cons 12 (.int .i64) (.cons 13 (.int .i64) .nil)))))))
abbrev pH56:PH:=(.cons 80 (.cells [.sl 3,.bool,.int .i64] (.cons (.slN 3) (.cons .bool (.cons (.int .i64) .nil)))) .nil)
abbrev pL57:PL:=(.cons (.agg (.cons (.slN 3) (.cons .bool (.cons (.int .i64) .nil)))) .nil)
abbrev Q58:Type:=Unit×Bool×Int×Unit
abbrev pL59:PL:=(.cons (.agg (.cons (.slN 3) (.cons .bool (.cons (.int .i64) .nil)))) (.cons (.agg (.cons (.int .i64) (.cons (.int .i64) (.cons .bool .nil)))) .nil))
abbrev pL60:PL:=(.cons (.agg (.cons (.sla 0) (.cons .bool (.cons (.int .i64) .nil)))) (.cons (.int .i64) .nil))
abbrev Q61:Type:=List (Go.Value×Eng.V)
abbrev pL62:PL:=(.cons (.ptr 0 0) (.cons (.int .i64) (.cons (.int .i64) .nil)))
abbrev pH63:PH:=(.cons 0 (.cells [.sl 3,.bool,.int .i64,.int .i64,.bool,.oth] (.cons (.slN 3) (.cons .bool (.cons (.int .i64) (.cons (.int .i64) (.cons .bool (.cons (.mp 1) .nil))))))) (.cons 1 .mapI .nil))
abbrev pH64:PH:=(.cons 0 (.cells [.sl 3,.bool,.int .i64,.int .i64,.bool,.oth] (.cons (.sla 1) (.cons .bool (.cons (.int .i64) (.cons (.int .i64) (.cons .bool (.cons (.mp 2) .nil))))))) (.cons 1 (.arrB 3) (.cons 2 .mapI .nil)))
abbrev Q65:Type:=ByteArray×List Eng.V×List Eng.V×Bool×Unit
abbrev pL66:PL:=(.cons (.ptr 0 0) (.cons (.int .i64) (.cons (.agg (.cons .str (.cons (.slN 1) (.cons (.slN 1) (.cons .bool .nil))))) .nil)))
abbrev Q67:Type:=Int×Int×Unit
abbrev pL68:PL:=(.cons (.agg (.cons (.sla 0) (.cons .bool (.cons (.int .i64) .nil)))) (.cons (.agg (.cons (.int .i64) (.cons (.int .i64) .nil))) .nil))
abbrev pL69:PL:=(.cons (.nl 1) (.cons (.int .i64) .nil))
abbrev Q70:Type:=(List Eng.V×Unit×Int×List Eng.V×Int×Int×Unit)×Unit
abbrev Q71:Type:=(Unit×Unit×List Eng.V×Int×Int×Unit)×(List Eng.V×Bool×Bool)×Unit
abbrev pT72:PT:=(.cons 2 (.nl 0) (.cons 6 (.sla 448) (.cons 25 (.slN 1) (.cons 26 (.int .i64) (.cons 27 (.int .i64) .nil)))))
abbrev pH73:PH:=(.cons 448 (.arrB 1) .nil)
abbrev pT74:PT:=(.cons 0 (.slN 1) (.cons 2 (.nl 0) (.cons 3 (.int .i64) (.cons 9 (.slN 1) (.cons 10 (.int .i64) (.cons 11 (.int .i64) .nil))))))
abbrev pL75:PL:=(.cons (.slN 1) .nil)
abbrev pL76:PL:=(.cons (.int .u32) (.cons (.int .i64) .nil))
abbrev pL77:PL:=(.cons (.int .u32) .nil)
abbrev pL78:PL:=(.cons (.ptr 0 0) (.cons (.int .u32) (.cons (.int .u32) (.cons (.int .u32) .nil))))
abbrev pH79:PH:=(.cons 0 (.cells [.int .u32,.int .u32,.int .u32,.int .u32,.int .u32] (.cons (.int .u32) (.cons (.int .u32) (.cons (.int .u32) (.cons (.int .u32) (.cons (.int .u32) .nil)))))) .nil)
abbrev Q80:Type:=(Unit×List Eng.V×Unit×Int×Unit)×(Int×Int×Int×Int×Int×Unit)×List Eng.V×Unit
abbrev Q81:Type:=(Unit×Unit×Int×Unit)×(Int×Int×Int×Int×Int×Unit)×List Eng.V×Unit
abbrev Q82:Type:=(Unit×Unit×List Eng.V×Int×Unit)×(Int×Int×Int×Int×Int×Unit)×(Int×Int×Int×Int×Int×Unit)×Unit
abbrev pT83:PT:=(.cons 0 (.ptr 0 0) (.cons 9 (.ptr 208 0) (.cons 72 .aggS (.cons 73 (.int .i64) .nil))))
abbrev pH84:PH:=(.cons 0 (.cells [.int .u32,.int .u32,.int .u32,.int .u32,.int .u32] (.cons (.int .u32) (.cons (.int .u32) (.cons (.int .u32) (.cons (.int .u32) (.cons (.int .u32) .nil)))))) (.cons 208 (.cells [.int .u32,.int .u32,.int .u32,.int .u32,.int .u32] (.cons (.int .u32) (.cons (.int .u32) (.cons (.int .u32) (.cons (.int .u32) (.cons (.int .u32) .nil)))))) .nil))
abbrev pT85:PT:=(.cons 0 (.ptr 0 0) (.cons 4 (.pea 128) (.cons 8 (.int .i64) .nil)))
abbrev pH86:PH:=(.cons 0 (.cells [.int .u32,.int .u32,.int .u32,.int .u32,.int .u32] (.cons (.int .u32) (.cons (.int .u32) (.cons (.int .u32) (.cons (.int .u32) (.cons (.int .u32) .nil)))))) (.cons 128 (.arr 80 true false) .nil))
abbrev Q87:Type:=(Unit×List Eng.V×Unit×Int×Int×List Eng.V×Int×Int×Unit)×(Int×Int×Int×Int×Int×Unit)×List Eng.V×Unit
abbrev pT88:PT:=(.cons 0 (.ptr 0 0) (.cons 1 (.slN 1) (.cons 4 (.pea 128) (.cons 5 (.int .i64) (.cons 17 (.int .i64) (.cons 26 (.slN 1) (.cons 27 (.int .i64) (.cons 28 (.int .i64) .nil))))))))
abbrev pT89:PT:=(.cons 0 (.ptr 0 0) (.cons 1 (.slN 1) (.cons 4 (.pea 128) (.cons 17 (.int .i64) .nil))))
abbrev pL90:PL:=(.cons (.ptr 0 0) (.cons (.slN 1) .nil))
abbrev Q91:Type:=Int×Int×Int×Int×Int×Int×Int×Int×Int×Int×Int×Int×Int×Int×Int×Int×Int×Int×Int×Int×Unit
abbrev Q92:Type:=(Unit×Unit×Int×Int×Unit)×List Eng.V×(List Eng.V×Bool×Bool)×Unit
abbrev Q93:Type:=(Unit×List Eng.V×Unit×Unit)×List Eng.V×(Int×Int×Int×Int×Int×Unit)×Unit
abbrev Q94:Type:=(Unit×Unit×Int×Unit)×List Eng.V×(Int×Int×Int×Int×Int×Unit)×Unit
abbrev pT95:PT:=(.cons 2 (.pea 96) (.cons 6 (.ptr 160 0) (.cons 45 (.int .i64) .nil)))
abbrev pH96:PH:=(.cons 96 (.arr 20 true false) (.cons 160 (.cells [.int .u32,.int .u32,.int .u32,.int .u32,.int .u32] (.cons (.int .u32) (.cons (.int .u32) (.cons (.int .u32) (.cons (.int .u32) (.cons (.int .u32) .nil)))))) .nil))
abbrev pT97:PT:=(.cons 2 (.pea 96) (.cons 3 (.slN 1) (.cons 6 (.ptr 160 0) .nil)))
abbrev pT98:PT:=(.cons 2 (.pea 96) (.cons 3 (.sla 208) (.cons 4 (.int .u64) (.cons 5 (.int .i64) .nil))))
abbrev pH99:PH:=(.cons 96 (.arr 20 true false) (.cons 208 (.arrB 1) .nil))
abbrev pL100:PL:=(.cons (.agg (.cons (.int .u8) (.cons (.int .u8) (.cons (.int .u8) (.cons (.int .u8) (.cons (.int .u8) (.cons (.int .u8) (.cons (.int .u8) (.cons (.int .u8) (.cons (.int .u8) (.cons (.int .u8) (.cons (.int .u8) (.cons (.int .u8) (.cons (.int .u8) (.cons (.int .u8) (.cons (.int .u8) (.cons (.int .u8) (.cons (.int .u8) (.cons (.int .u8) (.cons (.int .u8) (.cons (.int .u8) .nil))))))))))))))))))))) .nil)
abbrev Q101:Type:=(List Eng.V×Unit×Unit×Unit×Int×Int×Unit)×List Eng.V×List Eng.V×List Eng.V×Unit
abbrev Q102:Type:=(List Eng.V×Unit×Unit×ByteArray×Unit×Int×Int×List Eng.V×Int×Int×Unit)×List Eng.V×List Eng.V×List Eng.V×Unit
abbrev pT103:PT:=(.cons 0 (.slN 4) (.cons 2 (.pea 96) (.cons 3 (.sla 640) (.cons 5 .str (.cons 8 (.sla 192) (.cons 9 (.int .i64) (.cons 10 (.int .i64) (.cons 14 (.slN 4) (.cons 15 (.int .i64) (.cons 16 (.int .i64) .nil))))))))))
abbrev pH104:PH:=(.cons 96 (.arr 20 true false) (.cons 192 (.arr 1 true false) (.cons 640 (.arr 1 true false) .nil)))
abbrev pT105:PT:=(.cons 0 (.slN 4) (.cons 2 (.pea 96) (.cons 3 (.sla 640) (.cons 8 (.sla 192) (.cons 9 (.int .i64) (.cons 10 (.int .i64) .nil))))))
abbrev pL106:PL:=(.cons (.slN 4) .nil)
abbrev Q107:Type:=(Unit×(Int×Int×Int×Int×Int×Int×Int×Int×Int×Int×Int×Int×Int×Int×Int×Int×Int×Int×Int×Int×Unit)×Int×Unit)×List Eng.V×Unit
abbrev pT108:PT:=(.cons 2 (.pea 96) (.cons 5 (.agg (.cons (.int .u8) (.cons (.int .u8) (.cons (.int .u8) (.cons (.int .u8) (.cons (.int .u8) (.cons (.int .u8) (.cons (.int .u8) (.cons (.int .u8) (.cons (.int .u8) (.cons (.int .u8) (.cons (.int .u8) (.cons (.int .u8) (.cons (.int .u8) (.cons (.int .u8) (.cons (.int .u8) (.cons (.int .u8) (.cons (.int .u8) (.cons (.int .u8) (.cons (.int .u8) (.cons (.int .u8) .nil))))))))))))))))))))) (.cons 6 (.int .i64) .nil)))
abbrev pH109:PH:=(.cons 96 (.arr 5 true false) .nil)
abbrev pL110:PL:=(.cons (.agg (.cons (.int .u32) (.cons (.int .u32) (.cons (.int .u32) (.cons (.int .u32) (.cons (.int .u32) .nil)))))) .nil)
abbrev Q111:Type:=(ByteArray×Unit×Unit×(Unit×Unit)×Unit×Unit×Unit×Int×Int×Unit)×(List Eng.V×Bool×Int×Unit)×(Int×Int×Unit)×(List Eng.V×Bool×Int×Int×Bool×Unit×Unit)×List (Go.Value×Eng.V)×(List Eng.V×Bool×Bool)×Unit
abbrev pT112:PT:=(.cons 0 .str (.cons 2 (.ptr 96 0) (.cons 3 (.ptr 112 0) (.cons 4 (.fn (.func 21) .nil .nil) (.cons 5 (.ptr 144 0) (.cons 6 (.sla 336) (.cons 18 (.sla 336) (.cons 19 (.int .i64) (.cons 20 (.int .i64) .nil)))))))))
abbrev pH113:PH:=(.cons 96 (.cells [.sl 3,.bool,.int .i64] (.cons (.slN 3) (.cons .bool (.cons (.int .i64) .nil)))) (.cons 112 (.cells [.int .i64,.int .i64] (.cons (.int .i64) (.cons (.int .i64) .nil))) (.cons 144 (.cells [.sl 3,.bool,.int .i64,.int .i64,.bool,.oth] (.cons (.slN 3) (.cons .bool (.cons (.int .i64) (.cons (.int .i64) (.cons .bool (.cons (.mp 288) .nil))))))) (.cons 288 .mapI (.cons 336 (.arrB 4) .nil)))))
abbrev Q114:Type:=(ByteArray×Unit×(Int×Int×Int×Int×Int×Int×Int×Int×Int×Int×Int×Int×Int×Int×Int×Int×Int×Int×Int×Int×Unit)×Int×Unit)×List Eng.V×Unit
abbrev pT115:PT:=(.cons 2 .str (.cons 3 (.sla 416) (.cons 6 (.agg (.cons (.int .u8) (.cons (.int .u8) (.cons (.int .u8) (.cons (.int .u8) (.cons (.int .u8) (.cons (.int .u8) (.cons (.int .u8) (.cons (.int .u8) (.cons (.int .u8) (.cons (.int .u8) (.cons (.int .u8) (.cons (.int .u8) (.cons (.int .u8) (.cons (.int .u8) (.cons (.int .u8) (.cons (.int .u8) (.cons (.int .u8) (.cons (.int .u8) (.cons (.int .u8) (.cons (.int .u8) .nil))))))))))))))))))))) (.cons 7 (.int .i64) .nil))))
abbrev pH116:PH:=(.cons 416 (.arr 1 true false) .nil)
abbrev Q117:Type:=(Unit×ByteArray×Unit×Int×Unit)×(Int×Int×Int×Int×Int×Unit)×List Eng.V×Unit
abbrev Q118:Type:=(ByteArray×ByteArray×Unit×Int×Int×Unit)×List Eng.V×Unit
abbrev pT119:PT:=(.cons 2 .str (.cons 5 .str (.cons 6 (.sla 480) (.cons 28 (.int .i64) (.cons 29 (.int .i64) .nil)))))
abbrev pH120:PH:=(.cons 480 (.arr 1 true false) .nil)
abbrev pT121:PT:=(.cons 1 (.ptr 80 0) (.cons 2 .str (.cons 3 (.pea 112) (.cons 8 (.int .i64) .nil))))
abbrev pH122:PH:=(.cons 80 (.cells [.int .u32,.int .u32,.int .u32,.int .u32,.int .u32] (.cons (.int .u32) (.cons (.int .u32) (.cons (.int .u32) (.cons (.int .u32) (.cons (.int .u32) .nil)))))) (.cons 112 (.arr 20 true false) .nil))
abbrev Q123:Type:=(ByteArray×Bool×ByteArray×Int×List Eng.V×Int×Int×Unit)×Unit
abbrev pT124:PT:=(.cons 4 .str (.cons 5 .bool (.cons 6 .str (.cons 9 (.int .i64) (.cons 42 (.slN 3) (.cons 43 (.int .i64) (.cons 44 (.int .i64) .nil)))))))
abbrev pL125:PL:=(.cons (.agg (.cons (.slN 3) (.cons .bool (.cons (.int .i64) .nil)))) (.cons (.int .i64) .nil))
abbrev pL126:PL:=(.cons .str (.cons .bool .nil))
abbrev Q127:Type:=(Unit×Unit×Bool×Int×Unit)×(List Eng.V×Bool×Int×Unit)×(List Eng.V×Bool×Int×Unit)×Unit
abbrev pT128:PT:=(.cons 2 (.ptr 96 0) (.cons 3 (.ptr 112 0) (.cons 4 .bool (.cons 5 (.int .i64) .nil))))
abbrev pH129:PH:=(.cons 96 (.cells [.sl 3,.bool,.int .i64] (.cons (.slN 3) (.cons .bool (.cons (.int .i64) .nil)))) (.cons 112 (.cells [.sl 3,.bool,.int .i64] (.cons (.slN 3) (.cons .bool (.cons (.int .i64) .nil)))) .nil))
abbrev pL130:PL:=(.cons (.agg (.cons (.slN 3) (.cons .bool (.cons (.int .i64) .nil)))) (.cons (.agg (.cons (.slN 3) (.cons .bool (.cons (.int .i64) .nil)))) .nil))
abbrev Q134:Type:=(ByteArray×Int×Bool×Bool×Unit×Int×Unit)×(List Eng.V×Bool×Bool)×Unit
abbrev Q135:Type:=(ByteArray×Int×Bool×Bool×Unit×ByteArray×Int×Unit)×(List Eng.V×Bool×Bool)×Unit
abbrev Q136:Type:=(Int×Bool×Bool×Unit×ByteArray×ByteArray×Int×Unit)×(List Eng.V×Bool×Bool)×Unit
abbrev pT137:PT:=(.cons 2 (.int .i64) (.cons 6 .bool (.cons 7 .bool (.cons 8 (.sla 384) (.cons 10 .str (.cons 12 .str (.cons 13 (.int .i64) .nil)))))))
abbrev pH138:PH:=(.cons 384 (.arrB 1) .nil)
abbrev pT139:PT:=(.cons 1 .str (.cons 2 (.int .i64) (.cons 6 .bool (.cons 7 .bool (.cons 8 (.sla 384) (.cons 10 .str (.cons 11 (.int .i64) .nil)))))))
abbrev pT140:PT:=(.cons 1 .str (.cons 2 (.int .i64) (.cons 6 .bool (.cons 7 .bool (.cons 8 (.sla 384) (.cons 9 (.int .i64) .nil))))))
abbrev Tq0e:Type:=(ByteArray→Prop)→Prop
def Yq0e (K:ByteArray→Prop):Prop :=
 K (ByteArray.mk (List.toArray (List.append [(35:UInt8),(9:UInt8),(114:UInt8),(101:UInt8),(109:UInt8),(97:UInt8),(114:UInt8),(107:UInt8),(10:UInt8),(35:UInt8),(36:UInt8),(9:UInt8),(32:UInt8),(51:UInt8),(54:UInt8),(55:UInt8),(54:UInt8),(57:UInt8),(50:UInt8),(52:UInt8),(56:UInt8),(48:UInt8),(48:UInt8),(10:UInt8),(35:UInt8),(10:UInt8),(35:UInt8),(64:UInt8),(9:UInt8),(51:UInt8),(55:UInt8),(48:UInt8),(55:UInt8),(53:UInt8),(57:UInt8),(54:UInt8),(56:UInt8),(48:UInt8),(48:UInt8),(10:UInt8),(35:UInt8),(10:UInt8),(50:UInt8),(50:UInt8),(55:UInt8),(50:UInt8),(48:UInt8),(54:UInt8),(48:UInt8),(56:UInt8),(48:UInt8),(48:UInt8),(9:UInt8),(49:UInt8),(48:UInt8)] [(9:UInt8),(35:UInt8),(32:UInt8),(49:UInt8),(32:UInt8),(74:UInt8),(97:UInt8),(110:UInt8),(32:UInt8),(49:UInt8),(57:UInt8),(55:UInt8),(50:UInt8),(10:UInt8),(50:UInt8),(50:UInt8),(56:UInt8),(55:UInt8),(55:UInt8),(56:UInt8),(53:UInt8),(54:UInt8),(48:UInt8),(48:UInt8),(9:UInt8),(49:UInt8),(49:UInt8),(9:UInt8),(35:UInt8),(32:UInt8),(49:UInt8),(32:UInt8),(74:UInt8),(117:UInt8),(108:UInt8),(32:UInt8),(49:UInt8),(57:UInt8),(55:UInt8),(50:UInt8),(13:UInt8),(10:UInt8),(50:UInt8),(51:UInt8),(48:UInt8),(51:UInt8),(54:UInt8),(56:UInt8),(51:UInt8),(50:UInt8),(48:UInt8),(48:UInt8),(32:UInt8),(49:UInt8),(50:UInt8),(10:UInt8)])))
def Xq0e:Tq0e:=Yq0e
def Jq0e (X:Tq0e):Inst:=mkI 17 .nil .nil pL0 .nil X
def Iq0e:Inst:=Jq0e Xq0e
theorem Eq0e:EqF Tryd.prog 1 gives Tryd.f17 [] [] (Jq0e (Yq0e)):=fun x y K=>by kernel_rfl
theorem Iq0e_ok:InstOk Tryd.prog G.1 Iq0e:=iok (gives:=gives) [] okNil 1 follows Tryd.func17 (by kernel_rfl) (fun x=>by kernel_rfl) (Eq0e)
abbrev Tq04:Type:=ByteArray→ByteArray→(Int→Prop)→Prop
def Yq04 (xq16:Tq16) (a0:ByteArray) (a1:ByteArray) (K:Int→Prop):Prop :=
 (if ((↑(ByteArray.size a1):Int) == 0) then
 K 0
 else
 (if (ByteArray.toList a1 == ByteArray.toList a0) then
 K 0
 else
 (if ((↑(ByteArray.size a1):Int) == 1) then
 (if (0 :Int)≤0∧0 < (↑(ByteArray.size a1):Int) then
 xq16 a0 (Eng.bAt a1 (0:Nat)) (fun r2 =>
 K r2)
 else
 False)
 else
 (if decide ((↑(ByteArray.size a1):Int)≥(↑(ByteArray.size a0):Int)) then
 K (-1)
 else
 False))))
def Xq04:Tq04:=Yq04 Xq16
def Jq04 (X:Tq04):Inst:=mkI 78 pL1 .nil pL2 .nil X
def Iq04:Inst:=Jq04 Xq04
theorem Eq04 (xq16:Tq16):EqF Tryd.prog 143 gives Tryd.f78 [Jq16 xq16] [] (Jq04 (Yq04 xq16)):=fun x y K=>by kernel_rfl
theorem Iq04_ok:InstOk Tryd.prog G.1 Iq04:=iok (gives:=gives) [] (okCons Iq16_ok okNil) 143 follows Tryd.func78 (by kernel_rfl) (fun x=>by kernel_rfl) (Eq04 Xq16)
abbrev Tq0l:Type:=ByteArray→ByteArray→(Int→Prop)→Prop
def Yq0l (xq04:Tq04) (a0:ByteArray) (a1:ByteArray) (K:Int→Prop):Prop :=
 xq04 a0 a1 (fun r2 =>
 K r2)
def Xq0l:Tq0l:=Yq0l Xq04
def Jq0l (X:Tq0l):Inst:=mkI 58 pL1 .nil pL2 .nil X
def Iq0l:Inst:=Jq0l Xq0l
theorem Eq0l (xq04:Tq04):EqF Tryd.prog 8 gives Tryd.f58 [Jq04 xq04] [] (Jq0l (Yq0l xq04)):=fun x y K=>by kernel_rfl
theorem Iq0l_ok:InstOk Tryd.prog G.1 Iq0l:=iok (gives:=gives) [] (okCons Iq04_ok okNil) 8 follows Tryd.func58 (by kernel_rfl) (fun x=>by kernel_rfl) (Eq0l Xq04)
abbrev Tq0c:Type:=ByteArray→ByteArray→Int→Int→((List Eng.V)→Bool→Bool→Prop)→Prop
def Lq0c_0 (xq0l:Tq0l) (K:(List Eng.V)→Bool→Bool→Prop):(Q3→Prop)→Q3→Prop:=fun k6 x7 =>
 (if decide (x7.1.2.2.2.2.2.2.1 < x7.1.2.2.2.1) then
 xq0l x7.1.1 x7.1.2.1 (fun r8 =>
 (if decide (r8 < 0) then
 (if 0≤x7.1.2.2.2.2.2.2.1∧x7.1.2.2.2.2.2.2.1 < (↑(List.length x7.2.1):Int) then
 (if Int.toNat x7.1.2.2.2.2.2.2.1 < List.length x7.2.1 then
 (if 0≤w64 (x7.1.2.2.2.2.2.2.1+1)∧w64 (x7.1.2.2.2.2.2.2.1+1)≤(↑(List.length (List.set x7.2.1 (Int.toNat x7.1.2.2.2.2.2.2.1) (Eng.setE (List.getD x7.2.1 (Int.toNat x7.1.2.2.2.2.2.2.1) Eng.V.bad) (0:Nat) [Eng.V.c (Value.string x7.1.1)]))):Int) then
 (if (0 :Int)≤0∧0≤w64 (x7.1.2.2.2.2.2.2.1+1) then
 (if Nat.ble (Int.toNat (w64 (x7.1.2.2.2.2.2.2.1+1)) - (0:Nat)) (List.length (List.set x7.2.1 (Int.toNat x7.1.2.2.2.2.2.2.1) (Eng.setE (List.getD x7.2.1 (Int.toNat x7.1.2.2.2.2.2.2.1) Eng.V.bad) (0:Nat) [Eng.V.c (Value.string x7.1.1)]))) then
 (lt (List.take (Int.toNat (w64 (x7.1.2.2.2.2.2.2.1+1)) - (0:Nat)) (List.set x7.2.1 (Int.toNat x7.1.2.2.2.2.2.2.1) (Eng.setE (List.getD x7.2.1 (Int.toNat x7.1.2.2.2.2.2.2.1) Eng.V.bad) (0:Nat) [Eng.V.c (Value.string x7.1.1)]))) fun v9 =>
 K v9 true false)
 else
 K (Eng.cutL (List.set x7.2.1 (Int.toNat x7.1.2.2.2.2.2.2.1) (Eng.setE (List.getD x7.2.1 (Int.toNat x7.1.2.2.2.2.2.2.1) Eng.V.bad) (0:Nat) [Eng.V.c (Value.string x7.1.1)])) (0:Nat) (Int.toNat (w64 (x7.1.2.2.2.2.2.2.1+1)) - (0:Nat))) false true)
 else
 False)
 else
 False)
 else
 False)
 else
 False)
 else
 (if 0≤w64 (r8+x7.1.2.2.1)∧w64 (r8+x7.1.2.2.1)≤(↑(ByteArray.size x7.1.1):Int) then
 (if (0 :Int)≤0∧0≤w64 (r8+x7.1.2.2.1) then
 (lt (ByteArray.extract x7.1.1 (0:Nat) (Int.toNat (w64 (r8+x7.1.2.2.1)))) fun v10 =>
 (if 0≤x7.1.2.2.2.2.2.2.1∧x7.1.2.2.2.2.2.2.1 < (↑(List.length x7.2.1):Int) then
 (if Int.toNat x7.1.2.2.2.2.2.2.1 < List.length x7.2.1 then
 (if 0≤(↑(ByteArray.size x7.1.1):Int)∧(↑(ByteArray.size x7.1.1):Int)≤(↑(ByteArray.size x7.1.1):Int) then
 (if 0≤w64 (r8+(↑(ByteArray.size x7.1.2.1):Int))∧w64 (r8+(↑(ByteArray.size x7.1.2.1):Int))≤(↑(ByteArray.size x7.1.1):Int) then
 (lt (ByteArray.extract x7.1.1 (Int.toNat (w64 (r8+(↑(ByteArray.size x7.1.2.1):Int)))) (Int.toNat (↑(ByteArray.size x7.1.1):Int))) fun v11 =>
 k6 ((v11,x7.1.2.1,x7.1.2.2.1,x7.1.2.2.2.1,(),(),w64 (x7.1.2.2.2.2.2.2.1+1),()),List.set x7.2.1 (Int.toNat x7.1.2.2.2.2.2.2.1) (Eng.setE (List.getD x7.2.1 (Int.toNat x7.1.2.2.2.2.2.2.1) Eng.V.bad) (0:Nat) [Eng.V.c (Value.string v10)]),()))
 else
 False)
 else
 False)
 else
 False)
 else
 False))
 else
 False)
 else
 False)))
 else
 (if 0≤x7.1.2.2.2.2.2.2.1∧x7.1.2.2.2.2.2.2.1 < (↑(List.length x7.2.1):Int) then
 (if Int.toNat x7.1.2.2.2.2.2.2.1 < List.length x7.2.1 then
 (if 0≤w64 (x7.1.2.2.2.2.2.2.1+1)∧w64 (x7.1.2.2.2.2.2.2.1+1)≤(↑(List.length (List.set x7.2.1 (Int.toNat x7.1.2.2.2.2.2.2.1) (Eng.setE (List.getD x7.2.1 (Int.toNat x7.1.2.2.2.2.2.2.1) Eng.V.bad) (0:Nat) [Eng.V.c (Value.string x7.1.1)]))):Int) then
 (if (0 :Int)≤0∧0≤w64 (x7.1.2.2.2.2.2.2.1+1) then
 (if Nat.ble (Int.toNat (w64 (x7.1.2.2.2.2.2.2.1+1)) - (0:Nat)) (List.length (List.set x7.2.1 (Int.toNat x7.1.2.2.2.2.2.2.1) (Eng.setE (List.getD x7.2.1 (Int.toNat x7.1.2.2.2.2.2.2.1) Eng.V.bad) (0:Nat) [Eng.V.c (Value.string x7.1.1)]))) then
 (lt (List.take (Int.toNat (w64 (x7.1.2.2.2.2.2.2.1+1)) - (0:Nat)) (List.set x7.2.1 (Int.toNat x7.1.2.2.2.2.2.2.1) (Eng.setE (List.getD x7.2.1 (Int.toNat x7.1.2.2.2.2.2.2.1) Eng.V.bad) (0:Nat) [Eng.V.c (Value.string x7.1.1)]))) fun v12 =>
 K v12 true false)
 else
 K (Eng.cutL (List.set x7.2.1 (Int.toNat x7.1.2.2.2.2.2.2.1) (Eng.setE (List.getD x7.2.1 (Int.toNat x7.1.2.2.2.2.2.2.1) Eng.V.bad) (0:Nat) [Eng.V.c (Value.string x7.1.1)])) (0:Nat) (Int.toNat (w64 (x7.1.2.2.2.2.2.2.1+1)) - (0:Nat))) false true)
 else
 False)
 else
 False)
 else
 False)
 else
 False))
def Lq0c_0p:Lp:=⟨1807,[.trim 1807],pT4,pH5,0⟩
def Yq0c (xq1n:Tq1n) (xq0l:Tq0l) (a0:ByteArray) (a1:ByteArray) (a2:Int) (a3:Int) (K:(List Eng.V)→Bool→Bool→Prop):Prop :=
 (if (a3 == 0) then
 K [] true true
 else
 (if (ByteArray.toList a1 == ByteArray.toList (ByteArray.mk #[])) then
 False
 else
 (if decide (a3 < 0) then
 xq1n a0 a1 (fun r4 =>
 (lt (if w64 ((↑(ByteArray.size a0):Int)+1) < w64 (r4+1) then w64 ((↑(ByteArray.size a0):Int)+1) else w64 (r4+1)) fun v5 =>
 (if 0≤v5∧v5≤v5∧v5≤4294967296 then
 lp (Lq0c_0 xq0l K) ((a0,a1,a2,w64 (v5 - 1),(),(),0,()),List.replicate (Int.toNat v5) (Eng.ofVal (Value.string (ByteArray.mk #[]))),())
 else
 False)))
 else
 (lt (if w64 ((↑(ByteArray.size a0):Int)+1) < a3 then w64 ((↑(ByteArray.size a0):Int)+1) else a3) fun v13 =>
 (if 0≤v13∧v13≤v13∧v13≤4294967296 then
 lp (Lq0c_0 xq0l K) ((a0,a1,a2,w64 (v13 - 1),(),(),0,()),List.replicate (Int.toNat v13) (Eng.ofVal (Value.string (ByteArray.mk #[]))),())
 else
 False)))))
def Xq0c:Tq0c:=Yq0c Xq1n Xq0l
def Jq0c (X:Tq0c):Inst:=mkI 41 pL6 .nil pL7 pH8 X
def Iq0c:Inst:=Jq0c Xq0c
theorem Eq0c (xq1n:Tq1n) (xq0l:Tq0l):EqF Tryd.prog 66 gives Tryd.f41 [Jq1n xq1n,Jq0l xq0l] [Lq0c_0p] (Jq0c (Yq0c xq1n xq0l)):=fun x y K=>by kernel_rfl
theorem Iq0c_ok:InstOk Tryd.prog G.1 Iq0c:=iok (gives:=gives) [Lq0c_0p] (okCons Iq1n_ok (okCons Iq0l_ok okNil)) 66 follows Tryd.func41 (by kernel_rfl) (fun x=>by kernel_rfl) (Eq0c Xq1n Xq0l)
abbrev Tq0m:Type:=ByteArray→ByteArray→((List Eng.V)→Bool→Bool→Prop)→Prop
def Yq0m (xq0c:Tq0c) (a0:ByteArray) (a1:ByteArray) (K:(List Eng.V)→Bool→Bool→Prop):Prop :=
 xq0c a0 a1 0 (-1) (fun r2 r3 r4 =>
 K r2 r3 r4)
def Xq0m:Tq0m:=Yq0m Xq0c
def Jq0m (X:Tq0m):Inst:=mkI 28 pL1 .nil pL7 pH8 X
def Iq0m:Inst:=Jq0m Xq0m
theorem Eq0m (xq0c:Tq0c):EqF Tryd.prog 8 gives Tryd.f28 [Jq0c xq0c] [] (Jq0m (Yq0m xq0c)):=fun x y K=>by kernel_rfl
theorem Iq0m_ok:InstOk Tryd.prog G.1 Iq0m:=iok (gives:=gives) [] (okCons Iq0c_ok okNil) 8 follows Tryd.func28 (by kernel_rfl) (fun x=>by kernel_rfl) (Eq0m Xq0c)
abbrev Tq02:Type:=ByteArray→ByteArray→(Bool→Prop)→Prop
def Yq02 (a0:ByteArray) (a1:ByteArray) (K:Bool→Prop):Prop :=
 (if decide ((↑(ByteArray.size a0):Int)≥(↑(ByteArray.size a1):Int)) then
 (if 0≤(↑(ByteArray.size a0):Int)∧(↑(ByteArray.size a0):Int)≤(↑(ByteArray.size a0):Int) then
 (if 0≤w64 ((↑(ByteArray.size a0):Int) - (↑(ByteArray.size a1):Int))∧w64 ((↑(ByteArray.size a0):Int) - (↑(ByteArray.size a1):Int))≤(↑(ByteArray.size a0):Int) then
 (lt (ByteArray.extract a0 (Int.toNat (w64 ((↑(ByteArray.size a0):Int) - (↑(ByteArray.size a1):Int)))) (Int.toNat (↑(ByteArray.size a0):Int))) fun v2 =>
 K (ByteArray.toList v2 == ByteArray.toList a1))
 else
 False)
 else
 False)
 else
 K false)
def Xq02:Tq02:=Yq02
def Jq02 (X:Tq02):Inst:=mkI 59 pL1 .nil pL9 .nil X
def Iq02:Inst:=Jq02 Xq02
theorem Eq02:EqF Tryd.prog 21 gives Tryd.f59 [] [] (Jq02 (Yq02)):=fun x y K=>by kernel_rfl
theorem Iq02_ok:InstOk Tryd.prog G.1 Iq02:=iok (gives:=gives) [] okNil 21 follows Tryd.func59 (by kernel_rfl) (fun x=>by kernel_rfl) (Eq02)
abbrev Tq01:Type:=ByteArray→ByteArray→(ByteArray→Prop)→Prop
def Yq01 (xq02:Tq02) (a0:ByteArray) (a1:ByteArray) (K:ByteArray→Prop):Prop :=
 xq02 a0 a1 (fun r2 =>
 (if r2 then
 (if 0≤w64 ((↑(ByteArray.size a0):Int) - (↑(ByteArray.size a1):Int))∧w64 ((↑(ByteArray.size a0):Int) - (↑(ByteArray.size a1):Int))≤(↑(ByteArray.size a0):Int) then
 (if (0 :Int)≤0∧0≤w64 ((↑(ByteArray.size a0):Int) - (↑(ByteArray.size a1):Int)) then
 (lt (ByteArray.extract a0 (0:Nat) (Int.toNat (w64 ((↑(ByteArray.size a0):Int) - (↑(ByteArray.size a1):Int))))) fun v3 =>
 K v3)
 else
 False)
 else
 False)
 else
 K a0))
def Xq01:Tq01:=Yq01 Xq02
def Jq01 (X:Tq01):Inst:=mkI 42 pL1 .nil pL0 .nil X
def Iq01:Inst:=Jq01 Xq01
theorem Eq01 (xq02:Tq02):EqF Tryd.prog 16 gives Tryd.f42 [Jq02 xq02] [] (Jq01 (Yq01 xq02)):=fun x y K=>by kernel_rfl
theorem Iq01_ok:InstOk Tryd.prog G.1 Iq01:=iok (gives:=gives) [] (okCons Iq02_ok okNil) 16 follows Tryd.func42 (by kernel_rfl) (fun x=>by kernel_rfl) (Eq01 Xq02)
abbrev Tq0a:Type:=ByteArray→ByteArray→(ByteArray→Prop)→Prop
def Yq0a (xq01:Tq01) (a0:ByteArray) (a1:ByteArray) (K:ByteArray→Prop):Prop :=
 xq01 a0 a1 (fun r2 =>
 K r2)
def Xq0a:Tq0a:=Yq0a Xq01
def Jq0a (X:Tq0a):Inst:=mkI 29 pL1 .nil pL0 .nil X
def Iq0a:Inst:=Jq0a Xq0a
theorem Eq0a (xq01:Tq01):EqF Tryd.prog 8 gives Tryd.f29 [Jq01 xq01] [] (Jq0a (Yq0a xq01)):=fun x y K=>by kernel_rfl
theorem Iq0a_ok:InstOk Tryd.prog G.1 Iq0a:=iok (gives:=gives) [] (okCons Iq01_ok okNil) 8 follows Tryd.func29 (by kernel_rfl) (fun x=>by kernel_rfl) (Eq0a Xq01)
abbrev Tq0r:Type:=ByteArray→((List Eng.V)→Bool→Bool→Prop)→Prop
def Lq0r_1 (xq0a:Tq0a) (K:(List Eng.V)→Bool→Bool→Prop):(Q10→Prop)→Q10→Prop:=fun k10 x11 =>
 (if decide (x11.1.2.2.2.1 < x11.1.2.2.1) then
 (if 0≤x11.1.2.2.2.1∧x11.1.2.2.2.1 < (↑(List.length x11.2.1.1):Int) then
 (Eng.asStr (Eng.getC x11.2.1.1 (Int.toNat x11.1.2.2.2.1) (0:Nat)) False fun t12 =>
 xq0a t12 (ByteArray.mk #[(13:UInt8)]) (fun r13 =>
 (if 0≤x11.1.2.2.2.1∧x11.1.2.2.2.1 < (↑(List.length x11.2.1.1):Int) then
 (if x11.2.1.2.2=false then
 (if Int.toNat x11.1.2.2.2.1 < List.length x11.2.1.1 then
 k10 (((),(),x11.1.2.2.1,w64 (x11.1.2.2.2.1+1),()),(List.set x11.2.1.1 (Int.toNat x11.1.2.2.2.1) (Eng.setE (List.getD x11.2.1.1 (Int.toNat x11.1.2.2.2.1) Eng.V.bad) (0:Nat) [Eng.V.c (Value.string r13)]),x11.2.1.2),())
 else
 False)
 else
 False)
 else
 False)))
 else
 False)
 else
 K x11.2.1.1 x11.2.1.2.1 x11.2.1.2.2)
def Lq0r_1p:Lp:=⟨3145740,[.trim 3145740],pT11,pH12,0⟩
def Lq0r_0 (xq0a:Tq0a) (K:(List Eng.V)→Bool→Bool→Prop):(Q13→Prop)→Q13→Prop:=fun k5 x6 =>
 (if decide (x6.1.2.2.2.1 < x6.1.2.2.1) then
 (if 0≤x6.1.2.2.2.1∧x6.1.2.2.2.1 < (↑(x6.1.2.1):Int) then
 (Eng.asStr (Eng.getC x6.2.1.1 ((0:Nat)+Int.toNat x6.1.2.2.2.1) (0:Nat)) False fun t7 =>
 xq0a t7 (ByteArray.mk #[(13:UInt8)]) (fun r8 =>
 (if 0≤x6.1.2.2.2.1∧x6.1.2.2.2.1 < (↑(x6.1.2.1):Int) then
 (if x6.2.1.2.2=false then
 (if (0:Nat)+Int.toNat x6.1.2.2.2.1 < List.length x6.2.1.1 then
 (lt (List.set x6.2.1.1 ((0:Nat)+Int.toNat x6.1.2.2.2.1) (Eng.setE (List.getD x6.2.1.1 ((0:Nat)+Int.toNat x6.1.2.2.2.1) Eng.V.bad) (0:Nat) [Eng.V.c (Value.string r8)])) fun v9 =>
 k5 (((),x6.1.2.1,x6.1.2.2.1,w64 (x6.1.2.2.2.1+1),()),(v9,x6.2.1.2),()))
 else
 False)
 else
 False)
 else
 False)))
 else
 False)
 else
 (if x6.2.1.2.1 then
 (if x6.2.1.2.2=false then
 (if Nat.ble x6.1.2.1 (List.length x6.2.1.1) then
 K (List.take x6.1.2.1 x6.2.1.1) true false
 else
 K (Eng.cutL x6.2.1.1 (0:Nat) x6.1.2.1) false true)
 else
 K (Eng.cutL x6.2.1.1 (0:Nat) x6.1.2.1) false true)
 else
 K (Eng.cutL x6.2.1.1 (0:Nat) x6.1.2.1) false true))
def Lq0r_0p:Lp:=⟨3145740,[.trim 3145740],pT14,pH12,0⟩
def Yq0r (xq0m:Tq0m) (xq0a:Tq0a) (a0:ByteArray) (K:(List Eng.V)→Bool→Bool→Prop):Prop :=
 xq0m a0 (ByteArray.mk #[(10:UInt8)]) (fun r1 r2 r3 =>
 (if 0≤w64 ((↑(List.length r1):Int) - 1)∧w64 ((↑(List.length r1):Int) - 1) < (↑(List.length r1):Int) then
 (Eng.asStr (Eng.getC r1 (Int.toNat (w64 ((↑(List.length r1):Int) - 1))) (0:Nat)) False fun t4 =>
 (if (ByteArray.toList t4 == ByteArray.toList (ByteArray.mk #[])) then
 (if 0≤w64 ((↑(List.length r1):Int) - 1)∧w64 ((↑(List.length r1):Int) - 1)≤(↑(List.length r1):Int) then
 (if (0 :Int)≤0∧0≤w64 ((↑(List.length r1):Int) - 1) then
 lp (Lq0r_0 xq0a K) (((),Int.toNat (w64 ((↑(List.length r1):Int) - 1)) - (0:Nat),(↑(Int.toNat (w64 ((↑(List.length r1):Int) - 1)) - (0:Nat)):Int),0,()),(r1,r2,r3),())
 else
 False)
 else
 False)
 else
 lp (Lq0r_1 xq0a K) (((),(),(↑(List.length r1):Int),0,()),(r1,r2,r3),())))
 else
 False))
def Xq0r:Tq0r:=Yq0r Xq0m Xq0a
def Jq0r (X:Tq0r):Inst:=mkI 13 pL0 .nil pL7 pH8 X
def Iq0r:Inst:=Jq0r Xq0r
theorem Eq0r (xq0m:Tq0m) (xq0a:Tq0a):EqF Tryd.prog 34 gives Tryd.f13 [Jq0m xq0m,Jq0a xq0a] [Lq0r_0p,Lq0r_1p] (Jq0r (Yq0r xq0m xq0a)):=fun x y K=>by kernel_rfl
theorem Iq0r_ok:InstOk Tryd.prog G.1 Iq0r:=iok (gives:=gives) [Lq0r_0p,Lq0r_1p] (okCons Iq0m_ok (okCons Iq0a_ok okNil)) 34 follows Tryd.func13 (by kernel_rfl) (fun x=>by kernel_rfl) (Eq0r Xq0m Xq0a)
abbrev Tq0t:Type:=ByteArray→((List Eng.V)→Bool→Bool→Prop)→Prop
def Lq0t_0 (K:(List Eng.V)→Bool→Bool→Prop):(Q15→Prop)→Q15→Prop:=fun k1 x2 =>
 (if x2.2.1.2 < ByteArray.size x2.2.1.1 then
 (if ((↑(Prod.fst (Go.Utf8.decode x2.2.1.1 x2.2.1.2)):Int) == 32) then
 (if decide (x2.1.2.2.1≥0) then
 (if 0≤(↑(x2.2.1.2):Int)∧(↑(x2.2.1.2):Int)≤(↑(ByteArray.size x2.1.1):Int) then
 (if 0≤x2.1.2.2.1∧x2.1.2.2.1≤(↑(x2.2.1.2):Int) then
 (if Eng.roomOk (List.length x2.2.2.1+List.length [Eng.V.c (Value.string (ByteArray.extract x2.1.1 (Int.toNat x2.1.2.2.1) (Int.toNat (↑(x2.2.1.2):Int))))]) (16:Nat) then
 k1 ((x2.1.1,(),(-1),(),()),(x2.2.1.1,x2.2.1.2+Prod.snd (Go.Utf8.decode x2.2.1.1 x2.2.1.2)),x2.2.2.1++[Eng.V.c (Value.string (ByteArray.extract x2.1.1 (Int.toNat x2.1.2.2.1) (Int.toNat (↑(x2.2.1.2):Int))))],())
 else
 False)
 else
 False)
 else
 False)
 else
 k1 ((x2.1.1,(),x2.1.2.2.1,(),()),(x2.2.1.1,x2.2.1.2+Prod.snd (Go.Utf8.decode x2.2.1.1 x2.2.1.2)),x2.2.2))
 else
 (if ((↑(Prod.fst (Go.Utf8.decode x2.2.1.1 x2.2.1.2)):Int) == 9) then
 (if decide (x2.1.2.2.1≥0) then
 (if 0≤(↑(x2.2.1.2):Int)∧(↑(x2.2.1.2):Int)≤(↑(ByteArray.size x2.1.1):Int) then
 (if 0≤x2.1.2.2.1∧x2.1.2.2.1≤(↑(x2.2.1.2):Int) then
 (if Eng.roomOk (List.length x2.2.2.1+List.length [Eng.V.c (Value.string (ByteArray.extract x2.1.1 (Int.toNat x2.1.2.2.1) (Int.toNat (↑(x2.2.1.2):Int))))]) (16:Nat) then
 k1 ((x2.1.1,(),(-1),(),()),(x2.2.1.1,x2.2.1.2+Prod.snd (Go.Utf8.decode x2.2.1.1 x2.2.1.2)),x2.2.2.1++[Eng.V.c (Value.string (ByteArray.extract x2.1.1 (Int.toNat x2.1.2.2.1) (Int.toNat (↑(x2.2.1.2):Int))))],())
 else
 False)
 else
 False)
 else
 False)
 else
 (if (!(↑(Prod.fst (Go.Utf8.decode x2.2.1.1 x2.2.1.2)):Int) == 9) then
 (if decide (x2.1.2.2.1 < 0) then
 k1 ((x2.1.1,(),(↑(x2.2.1.2):Int),(),()),(x2.2.1.1,x2.2.1.2+Prod.snd (Go.Utf8.decode x2.2.1.1 x2.2.1.2)),x2.2.2)
 else
 k1 ((x2.1.1,(),x2.1.2.2.1,(),()),(x2.2.1.1,x2.2.1.2+Prod.snd (Go.Utf8.decode x2.2.1.1 x2.2.1.2)),x2.2.2))
 else
 k1 ((x2.1.1,(),x2.1.2.2.1,(),()),(x2.2.1.1,x2.2.1.2+Prod.snd (Go.Utf8.decode x2.2.1.1 x2.2.1.2)),x2.2.2)))
 else
 (if (!(↑(Prod.fst (Go.Utf8.decode x2.2.1.1 x2.2.1.2)):Int) == 9) then
 (if decide (x2.1.2.2.1 < 0) then
 k1 ((x2.1.1,(),(↑(x2.2.1.2):Int),(),()),(x2.2.1.1,x2.2.1.2+Prod.snd (Go.Utf8.decode x2.2.1.1 x2.2.1.2)),x2.2.2)
 else
 k1 ((x2.1.1,(),x2.1.2.2.1,(),()),(x2.2.1.1,x2.2.1.2+Prod.snd (Go.Utf8.decode x2.2.1.1 x2.2.1.2)),x2.2.2))
 else
 k1 ((x2.1.1,(),x2.1.2.2.1,(),()),(x2.2.1.1,x2.2.1.2+Prod.snd (Go.Utf8.decode x2.2.1.1 x2.2.1.2)),x2.2.2))))
 else
 K x2.2.2.1 true false)
def Lq0t_0p:Lp:=⟨525,[.trim 525,.fat 2 1 736,.trim 525],pT16,pH17,0⟩
def Yq0t (a0:ByteArray) (K:(List Eng.V)→Bool→Bool→Prop):Prop :=
 (if (↑(ByteArray.size a0+(1:Nat)):Int) > 9223372036854775807 then
 False
 else
 lp (Lq0t_0 K) ((a0,(),(-1),(),()),(a0++ByteArray.mk #[(32:UInt8)],(0:Nat)),[],()))
def Xq0t:Tq0t:=Yq0t
def Jq0t (X:Tq0t):Inst:=mkI 37 pL0 .nil pL7 pH8 X
def Iq0t:Inst:=Jq0t Xq0t
theorem Eq0t:EqF Tryd.prog 42 gives Tryd.f37 [] [Lq0t_0p] (Jq0t (Yq0t)):=fun x y K=>by kernel_rfl
theorem Iq0t_ok:InstOk Tryd.prog G.1 Iq0t:=iok (gives:=gives) [Lq0t_0p] okNil 42 follows Tryd.func37 (by kernel_rfl) (fun x=>by kernel_rfl) (Eq0t)
abbrev Tq1a:Type:=Int→(Int→Prop)→Prop
def Yq1a (a0:Int) (K:Int→Prop):Prop :=
 (if decide (a0 < 0) then
 K (wu64 (0 - wu64 a0))
 else
 K (wu64 a0))
def Xq1a:Tq1a:=Yq1a
def Jq1a (X:Tq1a):Inst:=mkI 96 pL2 .nil pL18 .nil X
def Iq1a:Inst:=Jq1a Xq1a
theorem Eq1a:EqF Tryd.prog 10 gives Tryd.f96 [] [] (Jq1a (Yq1a)):=fun x y K=>by kernel_rfl
theorem Iq1a_ok:InstOk Tryd.prog G.1 Iq1a:=iok (gives:=gives) [] okNil 10 follows Tryd.func96 (by kernel_rfl) (fun x=>by kernel_rfl) (Eq1a)
abbrev Tq0h:Type:=Int→Int→(Int→Int→Prop)→Prop
def Yq0h (a0:Int) (a1:Int) (K:Int→Int→Prop):Prop :=
 (lt (wu64 (wu64 (↑(BitVec.toNat (BitVec.ofInt (64:Nat) a0 &&& BitVec.ofInt (64:Nat) 4294967295)):Int) * wu64 (↑(BitVec.toNat (BitVec.ofInt (64:Nat) a1 &&& BitVec.ofInt (64:Nat) 4294967295)):Int))) fun v2 =>
 (lt (wu64 (Int.fdiv a0 4294967296 * wu64 (↑(BitVec.toNat (BitVec.ofInt (64:Nat) a1 &&& BitVec.ofInt (64:Nat) 4294967295)):Int))) fun v3 =>
 (lt (wu64 (↑(BitVec.toNat (BitVec.ofInt (64:Nat) (wu64 (v3+Int.fdiv v2 4294967296)) &&& BitVec.ofInt (64:Nat) 4294967295)):Int)) fun v4 =>
 (lt (Int.fdiv (wu64 (v3+Int.fdiv v2 4294967296)) 4294967296) fun v5 =>
 (lt (wu64 (wu64 (↑(BitVec.toNat (BitVec.ofInt (64:Nat) a0 &&& BitVec.ofInt (64:Nat) 4294967295)):Int) * Int.fdiv a1 4294967296)) fun v6 =>
 (lt (wu64 (Int.fdiv a0 4294967296 * Int.fdiv a1 4294967296)) fun v7 =>
 (lt (wu64 (wu64 (v7+v5)+Int.fdiv (wu64 (v4+v6)) 4294967296)) fun v8 =>
 K v8 (wu64 (a0 * a1)))))))))
def Xq0h:Tq0h:=Yq0h
def Jq0h (X:Tq0h):Inst:=mkI 95 pL19 .nil pL19 .nil X
def Iq0h:Inst:=Jq0h Xq0h
theorem Eq0h:EqF Tryd.prog 51 gives Tryd.f95 [] [] (Jq0h (Yq0h)):=fun x y K=>by kernel_rfl
theorem Iq0h_ok:InstOk Tryd.prog G.1 Iq0h:=iok (gives:=gives) [] okNil 51 follows Tryd.func95 (by kernel_rfl) (fun x=>by kernel_rfl) (Eq0h)
abbrev Tq1m:Type:=Int→Int→(Int→Bool→Prop)→Prop
def Yq1m (xq1a:Tq1a) (xq0h:Tq0h) (a0:Int) (a1:Int) (K:Int→Bool→Prop):Prop :=
 xq1a a0 (fun r2 =>
 xq1a a1 (fun r3 =>
 xq0h r2 r3 (fun r4 r5 =>
 (if (!decide (a0 < 0) == decide (a1 < 0)) then
 (if (r4 != 0) then
 K 0 false
 else
 (if decide (r5 > 9223372036854775808) then
 K 0 false
 else
 K (w64 (a0 * a1)) true))
 else
 (if (r4 != 0) then
 K 0 false
 else
 (if decide (r5 > 9223372036854775807) then
 K 0 false
 else
 K (w64 (a0 * a1)) true))))))
def Xq1m:Tq1m:=Yq1m Xq1a Xq0h
def Jq1m (X:Tq1m):Inst:=mkI 86 pL20 .nil pL21 .nil X
def Iq1m:Inst:=Jq1m Xq1m
theorem Eq1m (xq1a:Tq1a) (xq0h:Tq0h):EqF Tryd.prog 34 gives Tryd.f86 [Jq1a xq1a,Jq0h xq0h] [] (Jq1m (Yq1m xq1a xq0h)):=fun x y K=>by kernel_rfl
theorem Iq1m_ok:InstOk Tryd.prog G.1 Iq1m:=iok (gives:=gives) [] (okCons Iq1a_ok (okCons Iq0h_ok okNil)) 34 follows Tryd.func86 (by kernel_rfl) (fun x=>by kernel_rfl) (Eq1m Xq1a Xq0h)
abbrev Tq1i:Type:=Int→Int→(Int→Bool→Prop)→Prop
def Yq1i (a0:Int) (a1:Int) (K:Int→Bool→Prop):Prop :=
 (lt (!decide (w64 (a0+a1) > a0) == decide (a1 > 0)) fun v2 =>
 (if v2 then
 (if (a1 != 0) then
 K 0 false
 else
 K (w64 (a0+a1)) true)
 else
 K (w64 (a0+a1)) true))
def Xq1i:Tq1i:=Yq1i
def Jq1i (X:Tq1i):Inst:=mkI 33 pL20 .nil pL21 .nil X
def Iq1i:Inst:=Jq1i Xq1i
theorem Eq1i:EqF Tryd.prog 21 gives Tryd.f33 [] [] (Jq1i (Yq1i)):=fun x y K=>by kernel_rfl
theorem Iq1i_ok:InstOk Tryd.prog G.1 Iq1i:=iok (gives:=gives) [] okNil 21 follows Tryd.func33 (by kernel_rfl) (fun x=>by kernel_rfl) (Eq1i)
abbrev Tq0o:Type:=ByteArray→(Int→Bool→Prop)→Prop
def Lq0o_0 (xq1m:Tq1m) (xq1i:Tq1i) (K:Int→Bool→Prop):(Q22→Prop)→Q22→Prop:=fun k1 x2 =>
 (if decide (x2.1.2.2.2.2.2.1 < x2.1.2.2.2.2.1) then
 (if 0≤x2.1.2.2.2.2.2.1∧x2.1.2.2.2.2.2.1 < (↑(List.length x2.2.1):Int) then
 (Eng.asInt IntKind.u8 (Eng.getC x2.2.1 (Int.toNat x2.1.2.2.2.2.2.1) (0:Nat)) False fun n3 =>
 xq1m x2.1.2.1 10 (fun r4 r5 =>
 xq1i r4 (w64 (w64 n3 - 48)) (fun r6 r7 =>
 (if decide (n3 < 48) then
 K 0 false
 else
 (if decide (n3 > 57) then
 K 0 false
 else
 (if (!r5) then
 K 0 false
 else
 (if (!r7) then
 K 0 false
 else
 k1 ((x2.1.1,r6,x2.1.2.2.1,(),x2.1.2.2.2.2.1,w64 (x2.1.2.2.2.2.2.1+1),()),x2.2))))))))
 else
 False)
 else
 K x2.1.2.1 (decide ((↑(ByteArray.size x2.1.1):Int) > 0)))
def Lq0o_0p:Lp:=⟨14349,[.trim 14349],pT23,pH24,0⟩
def Yq0o (xq1m:Tq1m) (xq1i:Tq1i) (a0:ByteArray) (K:Int→Bool→Prop):Prop :=
 lp (Lq0o_0 xq1m xq1i K) ((a0,0,false,(),(↑(List.length (Eng.bytesV a0)):Int),0,()),Eng.bytesV a0,())
def Xq0o:Tq0o:=Yq0o Xq1m Xq1i
def Jq0o (X:Tq0o):Inst:=mkI 66 pL0 .nil pL21 .nil X
def Iq0o:Inst:=Jq0o Xq0o
theorem Eq0o (xq1m:Tq1m) (xq1i:Tq1i):EqF Tryd.prog 50 gives Tryd.f66 [Jq1m xq1m,Jq1i xq1i] [Lq0o_0p] (Jq0o (Yq0o xq1m xq1i)):=fun x y K=>by kernel_rfl
theorem Iq0o_ok:InstOk Tryd.prog G.1 Iq0o:=iok (gives:=gives) [Lq0o_0p] (okCons Iq1m_ok (okCons Iq1i_ok okNil)) 50 follows Tryd.func66 (by kernel_rfl) (fun x=>by kernel_rfl) (Eq0o Xq1m Xq1i)
abbrev Tq0p:Type:=ByteArray→ByteArray→Int→(Q25→(List Eng.V)→Bool→Bool→(List Eng.V)→Bool→Bool→Prop)→Prop
def Lq0p_0 (xq0o:Tq0o) (K:Q25→(List Eng.V)→Bool→Bool→(List Eng.V)→Bool→Bool→Prop):(Q26→Prop)→Q26→Prop:=fun k6 x7 =>
 (if decide (x7.1.2.2.2.2.2.1 < x7.1.2.2.2.2.1) then
 (if 0≤x7.1.2.2.2.2.2.1∧x7.1.2.2.2.2.2.1 < (↑(List.length x7.2.2.2.1.1):Int) then
 (Eng.asStr (Eng.getC x7.2.2.2.1.1 (Int.toNat x7.1.2.2.2.2.2.1) (0:Nat)) False fun t8 =>
 xq0o t8 (fun r9 r10 =>
 (if Eng.roomOk (List.length x7.2.2.2.2.1+List.length [Eng.V.c (Value.int IntKind.i64 r9)]) (8:Nat) then
 (if x7.2.2.1.2.2.2.1 then
 k6 ((x7.1.1,(),(),(),x7.1.2.2.2.2.1,w64 (x7.1.2.2.2.2.2.1+1),()),(x7.2.1.1,(),(),x7.2.1.2.2.2),(x7.2.2.1.1,(),(),r10,()),x7.2.2.2.1,x7.2.2.2.2.1++[Eng.V.c (Value.int IntKind.i64 r9)],())
 else
 k6 ((x7.1.1,(),(),(),x7.1.2.2.2.2.1,w64 (x7.1.2.2.2.2.2.1+1),()),(x7.2.1.1,(),(),x7.2.1.2.2.2),(x7.2.2.1.1,(),(),false,()),x7.2.2.2.1,x7.2.2.2.2.1++[Eng.V.c (Value.int IntKind.i64 r9)],()))
 else
 False)))
 else
 False)
 else
 (if x7.2.2.1.2.2.2.1 then
 (if (!(↑(List.length x7.2.2.2.1.1):Int) == x7.1.1) then
 K (x7.2.2.1.1,(),(),(↑(List.length x7.2.2.2.1.1):Int) == x7.1.1,()) [] true true x7.2.2.2.2.1 true false
 else
 K (x7.2.2.1.1,(),(),(↑(List.length x7.2.2.2.1.1):Int) == x7.1.1,()) x7.2.2.2.1.1 x7.2.2.2.1.2.1 x7.2.2.2.1.2.2 x7.2.2.2.2.1 true false)
 else
 K (x7.2.2.1.1,(),(),false,()) [] true true x7.2.2.2.2.1 true false))
def Lq0p_0p:Lp:=⟨917700,[.trim 917700,.trim 917700,.fatC 176 2 1 1280,.trim 917700],pT27,pH28,0⟩
def Yq0p (xq0t:Tq0t) (xq0o:Tq0o) (a0:ByteArray) (a1:ByteArray) (a2:Int) (K:Q25→(List Eng.V)→Bool→Bool→(List Eng.V)→Bool→Bool→Prop):Prop :=
 xq0t a1 (fun r3 r4 r5 =>
 lp (Lq0p_0 xq0o K) ((a2,(),(),(),(↑(List.length r3):Int),0,()),(ByteArray.mk #[],(),(),false,()),(a0,(),(),true,()),(r3,r4,r5),[],()))
def Xq0p:Tq0p:=Yq0p Xq0t Xq0o
def Jq0p (X:Tq0p):Inst:=mkI 47 pL29 .nil pL30 pH31 X
def Iq0p:Inst:=Jq0p Xq0p
theorem Eq0p (xq0t:Tq0t) (xq0o:Tq0o):EqF Tryd.prog 56 gives Tryd.f47 [Jq0t xq0t,Jq0o xq0o] [Lq0p_0p] (Jq0p (Yq0p xq0t xq0o)):=fun x y K=>by kernel_rfl
theorem Iq0p_ok:InstOk Tryd.prog G.1 Iq0p:=iok (gives:=gives) [Lq0p_0p] (okCons Iq0t_ok (okCons Iq0o_ok okNil)) 56 follows Tryd.func47 (by kernel_rfl) (fun x=>by kernel_rfl) (Eq0p Xq0t Xq0o)
abbrev Tq14:Type:=Int→(Int→Bool→Prop)→Prop
def Yq14 (a0:Int) (K:Int→Bool→Prop):Prop :=
 (if decide (a0≥48) then
 (if decide (a0≤57) then
 K (wu32 (wi32 (a0 - 48))) true
 else
 (if decide (a0≥97) then
 (if decide (a0≤102) then
 (lt (wu32 (wu32 (wi32 (a0 - 97))+10)) fun v1 =>
 K v1 true)
 else
 (if decide (a0≥65) then
 (if decide (a0≤70) then
 (lt (wu32 (wu32 (wi32 (a0 - 65))+10)) fun v2 =>
 K v2 true)
 else
 K 0 false)
 else
 K 0 false))
 else
 (if decide (a0≥65) then
 (if decide (a0≤70) then
 (lt (wu32 (wu32 (wi32 (a0 - 65))+10)) fun v3 =>
 K v3 true)
 else
 K 0 false)
 else
 K 0 false)))
 else
 (if decide (a0≥97) then
 (if decide (a0≤102) then
 (lt (wu32 (wu32 (wi32 (a0 - 97))+10)) fun v4 =>
 K v4 true)
 else
 (if decide (a0≥65) then
 (if decide (a0≤70) then
 (lt (wu32 (wu32 (wi32 (a0 - 65))+10)) fun v5 =>
 K v5 true)
 else
 K 0 false)
 else
 K 0 false))
 else
 (if decide (a0≥65) then
 (if decide (a0≤70) then
 (lt (wu32 (wu32 (wi32 (a0 - 65))+10)) fun v6 =>
 K v6 true)
 else
 K 0 false)
 else
 K 0 false)))
def Xq14:Tq14:=Yq14
def Jq14 (X:Tq14):Inst:=mkI 52 pL32 .nil pL33 .nil X
def Iq14:Inst:=Jq14 Xq14
theorem Eq14:EqF Tryd.prog 36 gives Tryd.f52 [] [] (Jq14 (Yq14)):=fun x y K=>by kernel_rfl
theorem Iq14_ok:InstOk Tryd.prog G.1 Iq14:=iok (gives:=gives) [] okNil 36 follows Tryd.func52 (by kernel_rfl) (fun x=>by kernel_rfl) (Eq14)
abbrev Tq18:Type:=ByteArray→(Int→Bool→Prop)→Prop
def Lq18_0 (xq14:Tq14) (K:Int→Bool→Prop):(Q34→Prop)→Q34→Prop:=fun k1 x2 =>
 (if x2.2.1.2 < ByteArray.size x2.2.1.1 then
 xq14 (↑(Prod.fst (Go.Utf8.decode x2.2.1.1 x2.2.1.2)):Int) (fun r3 r4 =>
 (if (!r4) then
 K 0 false
 else
 (lt (wu32 (wu32 (x2.1.1 * 16)+r3)) fun v5 =>
 k1 ((v5,x2.1.2.1,(),()),(x2.2.1.1,x2.2.1.2+Prod.snd (Go.Utf8.decode x2.2.1.1 x2.2.1.2)),()))))
 else
 K x2.1.1 true)
def Lq18_0p:Lp:=⟨65548,[.trim 65548],pT35,pH36,0⟩
def Yq18 (xq14:Tq14) (a0:ByteArray) (K:Int→Bool→Prop):Prop :=
 (if (ByteArray.toList a0 == ByteArray.toList (ByteArray.mk #[])) then
 K 0 false
 else
 (if decide ((↑(ByteArray.size a0):Int) > 8) then
 K 0 false
 else
 lp (Lq18_0 xq14 K) ((0,false,(),()),(a0,(0:Nat)),())))
def Xq18:Tq18:=Yq18 Xq14
def Jq18 (X:Tq18):Inst:=mkI 38 pL0 .nil pL33 .nil X
def Iq18:Inst:=Jq18 Xq18
theorem Eq18 (xq14:Tq14):EqF Tryd.prog 32 gives Tryd.f38 [Jq14 xq14] [Lq18_0p] (Jq18 (Yq18 xq14)):=fun x y K=>by kernel_rfl
theorem Iq18_ok:InstOk Tryd.prog G.1 Iq18:=iok (gives:=gives) [Lq18_0p] (okCons Iq14_ok okNil) 32 follows Tryd.func38 (by kernel_rfl) (fun x=>by kernel_rfl) (Eq18 Xq14)
abbrev Tq1e:Type:=ByteArray→(Q37→Bool→Prop)→Prop
def Lq1e_0 (xq18:Tq18) (K:Q37→Bool→Prop):(Q38→Prop)→Q38→Prop:=fun k4 x5 =>
 (if decide (x5.1.2.2.2.2.1 < x5.1.2.2.2.1) then
 (if 0≤x5.1.2.2.2.2.1∧x5.1.2.2.2.2.1 < (↑(List.length x5.2.2.1.1):Int) then
 (Eng.asStr (Eng.getC x5.2.2.1.1 (Int.toNat x5.1.2.2.2.2.1) (0:Nat)) False fun t6 =>
 xq18 t6 (fun r7 r8 =>
 (if 0≤x5.1.2.2.2.2.1∧x5.1.2.2.2.2.1 < 5 then
 (if (0:Nat) < List.length x5.2.1 then
 (if (0:Nat)+Int.toNat x5.1.2.2.2.2.1 * (1:Nat)+List.length [Eng.V.c (Value.int IntKind.u32 r7)]≤(5:Nat) then
 (lt (List.set x5.2.1 (0:Nat) (Eng.setE (List.getD x5.2.1 (0:Nat) Eng.V.bad) ((0:Nat)+Int.toNat x5.1.2.2.2.2.1 * (1:Nat)) [Eng.V.c (Value.int IntKind.u32 r7)])) fun v9 =>
 (if (!r8) then
 (if (0:Nat) < List.length v9 then
 (lt (List.set v9 (0:Nat) (Eng.setE (List.getD v9 (0:Nat) Eng.V.bad) (0:Nat) [Eng.V.c (Value.int IntKind.u32 0),Eng.V.c (Value.int IntKind.u32 0),Eng.V.c (Value.int IntKind.u32 0),Eng.V.c (Value.int IntKind.u32 0),Eng.V.c (Value.int IntKind.u32 0)])) fun v10 =>
 (Eng.asInt IntKind.u32 (Eng.getC v10 (0:Nat) (0:Nat)) False fun n11 =>
 (Eng.asInt IntKind.u32 (Eng.getC v10 (0:Nat) (1:Nat)) False fun n12 =>
 (Eng.asInt IntKind.u32 (Eng.getC v10 (0:Nat) (2:Nat)) False fun n13 =>
 (Eng.asInt IntKind.u32 (Eng.getC v10 (0:Nat) (3:Nat)) False fun n14 =>
 (Eng.asInt IntKind.u32 (Eng.getC v10 (0:Nat) (4:Nat)) False fun n15 =>
 K (n11,n12,n13,n14,n15,()) false))))))
 else
 False)
 else
 k4 (((),r8,(),x5.1.2.2.2.1,w64 (x5.1.2.2.2.2.1+1),()),v9,x5.2.2)))
 else
 False)
 else
 False)
 else
 False)))
 else
 False)
 else
 (Eng.asInt IntKind.u32 (Eng.getC x5.2.1 (0:Nat) (0:Nat)) False fun n16 =>
 (Eng.asInt IntKind.u32 (Eng.getC x5.2.1 (0:Nat) (1:Nat)) False fun n17 =>
 (Eng.asInt IntKind.u32 (Eng.getC x5.2.1 (0:Nat) (2:Nat)) False fun n18 =>
 (Eng.asInt IntKind.u32 (Eng.getC x5.2.1 (0:Nat) (3:Nat)) False fun n19 =>
 (Eng.asInt IntKind.u32 (Eng.getC x5.2.1 (0:Nat) (4:Nat)) False fun n20 =>
 (if (0:Nat) < List.length x5.2.1 then
 (lt (List.set x5.2.1 (0:Nat) (Eng.setE (List.getD x5.2.1 (0:Nat) Eng.V.bad) (0:Nat) [Eng.V.c (Value.int IntKind.u32 n16),Eng.V.c (Value.int IntKind.u32 n17),Eng.V.c (Value.int IntKind.u32 n18),Eng.V.c (Value.int IntKind.u32 n19),Eng.V.c (Value.int IntKind.u32 n20)])) fun v21 =>
 (Eng.asInt IntKind.u32 (Eng.getC v21 (0:Nat) (0:Nat)) False fun n22 =>
 (Eng.asInt IntKind.u32 (Eng.getC v21 (0:Nat) (1:Nat)) False fun n23 =>
 (Eng.asInt IntKind.u32 (Eng.getC v21 (0:Nat) (2:Nat)) False fun n24 =>
 (Eng.asInt IntKind.u32 (Eng.getC v21 (0:Nat) (3:Nat)) False fun n25 =>
 (Eng.asInt IntKind.u32 (Eng.getC v21 (0:Nat) (4:Nat)) False fun n26 =>
 K (n22,n23,n24,n25,n26,()) true))))))
 else
 False)))))))
def Lq1e_0p:Lp:=⟨57356,[.trim 57356],pT39,pH40,0⟩
def Yq1e (xq0t:Tq0t) (xq18:Tq18) (a0:ByteArray) (K:Q37→Bool→Prop):Prop :=
 xq0t a0 (fun r1 r2 r3 =>
 (if ((↑(List.length r1):Int) != 5) then
 K (0,0,0,0,0,()) false
 else
 lp (Lq1e_0 xq18 K) (((),false,(),(↑(List.length r1):Int),0,()),[Eng.V.agg [Eng.V.c (Value.int IntKind.u32 0),Eng.V.c (Value.int IntKind.u32 0),Eng.V.c (Value.int IntKind.u32 0),Eng.V.c (Value.int IntKind.u32 0),Eng.V.c (Value.int IntKind.u32 0)]],(r1,r2,r3),())))
def Xq1e:Tq1e:=Yq1e Xq0t Xq18
def Jq1e (X:Tq1e):Inst:=mkI 25 pL0 .nil pL41 .nil X
def Iq1e:Inst:=Jq1e Xq1e
theorem Eq1e (xq0t:Tq0t) (xq18:Tq18):EqF Tryd.prog 32 gives Tryd.f25 [Jq0t xq0t,Jq18 xq18] [Lq1e_0p] (Jq1e (Yq1e xq0t xq18)):=fun x y K=>by kernel_rfl
theorem Iq1e_ok:InstOk Tryd.prog G.1 Iq1e:=iok (gives:=gives) [Lq1e_0p] (okCons Iq0t_ok (okCons Iq18_ok okNil)) 32 follows Tryd.func25 (by kernel_rfl) (fun x=>by kernel_rfl) (Eq1e Xq0t Xq18)
abbrev Tq03:Type:=ByteArray→ByteArray→(Bool→Prop)→Prop
def Yq03 (a0:ByteArray) (a1:ByteArray) (K:Bool→Prop):Prop :=
 (if decide ((↑(ByteArray.size a0):Int)≥(↑(ByteArray.size a1):Int)) then
 (if 0≤(↑(ByteArray.size a1):Int)∧(↑(ByteArray.size a1):Int)≤(↑(ByteArray.size a0):Int) then
 K (ByteArray.toList (ByteArray.extract a0 (0:Nat) (Int.toNat (↑(ByteArray.size a1):Int))) == ByteArray.toList a1)
 else
 False)
 else
 K false)
def Xq03:Tq03:=Yq03
def Jq03 (X:Tq03):Inst:=mkI 67 pL1 .nil pL9 .nil X
def Iq03:Inst:=Jq03 Xq03
theorem Eq03:EqF Tryd.prog 18 gives Tryd.f67 [] [] (Jq03 (Yq03)):=fun x y K=>by kernel_rfl
theorem Iq03_ok:InstOk Tryd.prog G.1 Iq03:=iok (gives:=gives) [] okNil 18 follows Tryd.func67 (by kernel_rfl) (fun x=>by kernel_rfl) (Eq03)
abbrev Tq0b:Type:=ByteArray→ByteArray→(Bool→Prop)→Prop
def Yq0b (xq03:Tq03) (a0:ByteArray) (a1:ByteArray) (K:Bool→Prop):Prop :=
 xq03 a0 a1 (fun r2 =>
 K r2)
def Xq0b:Tq0b:=Yq0b Xq03
def Jq0b (X:Tq0b):Inst:=mkI 48 pL1 .nil pL9 .nil X
def Iq0b:Inst:=Jq0b Xq0b
theorem Eq0b (xq03:Tq03):EqF Tryd.prog 8 gives Tryd.f48 [Jq03 xq03] [] (Jq0b (Yq0b xq03)):=fun x y K=>by kernel_rfl
theorem Iq0b_ok:InstOk Tryd.prog G.1 Iq0b:=iok (gives:=gives) [] (okCons Iq03_ok okNil) 8 follows Tryd.func48 (by kernel_rfl) (fun x=>by kernel_rfl) (Eq0b Xq03)
abbrev Tq07:Type:=ByteArray→ByteArray→(ByteArray→ByteArray→Bool→Prop)→Prop
def Yq07 (xq04:Tq04) (a0:ByteArray) (a1:ByteArray) (K:ByteArray→ByteArray→Bool→Prop):Prop :=
 xq04 a0 a1 (fun r2 =>
 (if decide (r2≥0) then
 (if 0≤r2∧r2≤(↑(ByteArray.size a0):Int) then
 (if (0 :Int)≤0∧0≤r2 then
 (if 0≤(↑(ByteArray.size a0):Int)∧(↑(ByteArray.size a0):Int)≤(↑(ByteArray.size a0):Int) then
 (if 0≤w64 (r2+(↑(ByteArray.size a1):Int))∧w64 (r2+(↑(ByteArray.size a1):Int))≤(↑(ByteArray.size a0):Int) then
 (lt (ByteArray.extract a0 (Int.toNat (w64 (r2+(↑(ByteArray.size a1):Int)))) (Int.toNat (↑(ByteArray.size a0):Int))) fun v3 =>
 K (ByteArray.extract a0 (0:Nat) (Int.toNat r2)) v3 true)
 else
 False)
 else
 False)
 else
 False)
 else
 False)
 else
 K a0 (ByteArray.mk #[]) false))
def Xq07:Tq07:=Yq07 Xq04
def Jq07 (X:Tq07):Inst:=mkI 68 pL1 .nil pL42 .nil X
def Iq07:Inst:=Jq07 Xq07
theorem Eq07 (xq04:Tq04):EqF Tryd.prog 23 gives Tryd.f68 [Jq04 xq04] [] (Jq07 (Yq07 xq04)):=fun x y K=>by kernel_rfl
theorem Iq07_ok:InstOk Tryd.prog G.1 Iq07:=iok (gives:=gives) [] (okCons Iq04_ok okNil) 23 follows Tryd.func68 (by kernel_rfl) (fun x=>by kernel_rfl) (Eq07 Xq04)
abbrev Tq0s:Type:=ByteArray→ByteArray→(ByteArray→ByteArray→Bool→Prop)→Prop
def Yq0s (xq07:Tq07) (a0:ByteArray) (a1:ByteArray) (K:ByteArray→ByteArray→Bool→Prop):Prop :=
 xq07 a0 a1 (fun r2 r3 r4 =>
 K r2 r3 r4)
def Xq0s:Tq0s:=Yq0s Xq07
def Jq0s (X:Tq0s):Inst:=mkI 49 pL1 .nil pL42 .nil X
def Iq0s:Inst:=Jq0s Xq0s
theorem Eq0s (xq07:Tq07):EqF Tryd.prog 13 gives Tryd.f49 [Jq07 xq07] [] (Jq0s (Yq0s xq07)):=fun x y K=>by kernel_rfl
theorem Iq0s_ok:InstOk Tryd.prog G.1 Iq0s:=iok (gives:=gives) [] (okCons Iq07_ok okNil) 13 follows Tryd.func49 (by kernel_rfl) (fun x=>by kernel_rfl) (Eq0s Xq07)
abbrev Tq10:Type:=ByteArray→(Q25→(List Eng.V)→Bool→Bool→(List Eng.V)→Bool→Bool→Prop)→Prop
def Yq10 (xq0t:Tq0t) (xq0p:Tq0p) (xq1e:Tq1e) (xq0b:Tq0b) (xq0s:Tq0s) (a0:ByteArray) (K:Q25→(List Eng.V)→Bool→Bool→(List Eng.V)→Bool→Bool→Prop):Prop :=
 xq0t a0 (fun r1 r2 r3 =>
 (if ((↑(List.length r1):Int) == 0) then
 K (ByteArray.mk #[(35:UInt8)],(),(),true,()) [] true true [] true true
 else
 (if (0≤if (↑(ByteArray.size a0):Int) < 2 then (↑(ByteArray.size a0):Int) else 2)∧(if (↑(ByteArray.size a0):Int) < 2 then (↑(ByteArray.size a0):Int) else 2)≤(↑(ByteArray.size a0):Int) then
 (if (0 :Int)≤0∧0≤if (↑(ByteArray.size a0):Int) < 2 then (↑(ByteArray.size a0):Int) else 2 then
 (if (ByteArray.toList (ByteArray.extract a0 (0:Nat) (Int.toNat (if (↑(ByteArray.size a0):Int) < 2 then (↑(ByteArray.size a0):Int) else 2))) == ByteArray.toList (ByteArray.mk #[(35:UInt8),(36:UInt8)])) then
 (if (ByteArray.toList (ByteArray.extract a0 (0:Nat) (Int.toNat (if (↑(ByteArray.size a0):Int) < 2 then (↑(ByteArray.size a0):Int) else 2))) == ByteArray.toList (ByteArray.mk #[(35:UInt8),(36:UInt8)])) then
 (if 0≤(↑(ByteArray.size a0):Int)∧(↑(ByteArray.size a0):Int)≤(↑(ByteArray.size a0):Int) then
 (if (0 :Int)≤2∧2≤(↑(ByteArray.size a0):Int) then
 xq0p (ByteArray.extract a0 (0:Nat) (Int.toNat (if (↑(ByteArray.size a0):Int) < 2 then (↑(ByteArray.size a0):Int) else 2))) (ByteArray.extract a0 (2:Nat) (Int.toNat (↑(ByteArray.size a0):Int))) 1 (fun r4 r5 r6 r7 r8 r9 r10 =>
 K (r4.1,(),(),r4.2.2.2) r5 r6 r7 r8 r9 r10)
 else
 False)
 else
 False)
 else
 (if (ByteArray.toList (ByteArray.extract a0 (0:Nat) (Int.toNat (if (↑(ByteArray.size a0):Int) < 2 then (↑(ByteArray.size a0):Int) else 2))) == ByteArray.toList (ByteArray.mk #[(35:UInt8),(104:UInt8)])) then
 (if 0≤(↑(ByteArray.size a0):Int)∧(↑(ByteArray.size a0):Int)≤(↑(ByteArray.size a0):Int) then
 (if (0 :Int)≤2∧2≤(↑(ByteArray.size a0):Int) then
 xq1e (ByteArray.extract a0 (2:Nat) (Int.toNat (↑(ByteArray.size a0):Int))) (fun r11 r12 =>
 K (ByteArray.extract a0 (0:Nat) (Int.toNat (if (↑(ByteArray.size a0):Int) < 2 then (↑(ByteArray.size a0):Int) else 2)),(),(),r12,()) [] true true [] true true)
 else
 False)
 else
 False)
 else
 (if (0 :Int)≤0∧0 < (↑(List.length r1):Int) then
 (Eng.asStr (Eng.getC r1 (0:Nat) (0:Nat)) False fun t13 =>
 xq0b t13 (ByteArray.mk #[(35:UInt8)]) (fun r14 =>
 (if r14 then
 K (ByteArray.mk #[(35:UInt8)],(),(),true,()) [] true true [] true true
 else
 xq0s a0 (ByteArray.mk #[(35:UInt8)]) (fun r15 r16 r17 =>
 xq0p (ByteArray.mk #[]) r15 2 (fun r18 r19 r20 r21 r22 r23 r24 =>
 K (r18.1,(),(),r18.2.2.2) r19 r20 r21 r22 r23 r24)))))
 else
 False)))
 else
 (if (ByteArray.toList (ByteArray.extract a0 (0:Nat) (Int.toNat (if (↑(ByteArray.size a0):Int) < 2 then (↑(ByteArray.size a0):Int) else 2))) == ByteArray.toList (ByteArray.mk #[(35:UInt8),(64:UInt8)])) then
 (if 0≤(↑(ByteArray.size a0):Int)∧(↑(ByteArray.size a0):Int)≤(↑(ByteArray.size a0):Int) then
 (if (0 :Int)≤2∧2≤(↑(ByteArray.size a0):Int) then
 xq0p (ByteArray.extract a0 (0:Nat) (Int.toNat (if (↑(ByteArray.size a0):Int) < 2 then (↑(ByteArray.size a0):Int) else 2))) (ByteArray.extract a0 (2:Nat) (Int.toNat (↑(ByteArray.size a0):Int))) 1 (fun r25 r26 r27 r28 r29 r30 r31 =>
 K (r25.1,(),(),r25.2.2.2) r26 r27 r28 r29 r30 r31)
 else
 False)
 else
 False)
 else
 (if (ByteArray.toList (ByteArray.extract a0 (0:Nat) (Int.toNat (if (↑(ByteArray.size a0):Int) < 2 then (↑(ByteArray.size a0):Int) else 2))) == ByteArray.toList (ByteArray.mk #[(35:UInt8),(104:UInt8)])) then
 (if 0≤(↑(ByteArray.size a0):Int)∧(↑(ByteArray.size a0):Int)≤(↑(ByteArray.size a0):Int) then
 (if (0 :Int)≤2∧2≤(↑(ByteArray.size a0):Int) then
 xq1e (ByteArray.extract a0 (2:Nat) (Int.toNat (↑(ByteArray.size a0):Int))) (fun r32 r33 =>
 K (ByteArray.extract a0 (0:Nat) (Int.toNat (if (↑(ByteArray.size a0):Int) < 2 then (↑(ByteArray.size a0):Int) else 2)),(),(),r33,()) [] true true [] true true)
 else
 False)
 else
 False)
 else
 (if (0 :Int)≤0∧0 < (↑(List.length r1):Int) then
 (Eng.asStr (Eng.getC r1 (0:Nat) (0:Nat)) False fun t34 =>
 xq0b t34 (ByteArray.mk #[(35:UInt8)]) (fun r35 =>
 (if r35 then
 K (ByteArray.mk #[(35:UInt8)],(),(),true,()) [] true true [] true true
 else
 xq0s a0 (ByteArray.mk #[(35:UInt8)]) (fun r36 r37 r38 =>
 xq0p (ByteArray.mk #[]) r36 2 (fun r39 r40 r41 r42 r43 r44 r45 =>
 K (r39.1,(),(),r39.2.2.2) r40 r41 r42 r43 r44 r45)))))
 else
 False))))
 else
 False)
 else
 False)))
def Xq10:Tq10:=Yq10 Xq0t Xq0p Xq1e Xq0b Xq0s
def Jq10 (X:Tq10):Inst:=mkI 34 pL0 .nil pL30 pH31 X
def Iq10:Inst:=Jq10 Xq10
theorem Eq10 (xq0t:Tq0t) (xq0p:Tq0p) (xq1e:Tq1e) (xq0b:Tq0b) (xq0s:Tq0s):EqF Tryd.prog 53 gives Tryd.f34 [Jq0t xq0t,Jq0p xq0p,Jq1e xq1e,Jq0b xq0b,Jq0s xq0s] [] (Jq10 (Yq10 xq0t xq0p xq1e xq0b xq0s)):=fun x y K=>by kernel_rfl
theorem Iq10_ok:InstOk Tryd.prog G.1 Iq10:=iok (gives:=gives) [] (okCons Iq0t_ok (okCons Iq0p_ok (okCons Iq1e_ok (okCons Iq0b_ok (okCons Iq0s_ok okNil))))) 53 follows Tryd.func34 (by kernel_rfl) (fun x=>by kernel_rfl) (Eq10 Xq0t Xq0p Xq1e Xq0b Xq0s)
abbrev Tq11:Type:=ByteArray→((List Eng.V)→Bool→Bool→Prop)→Prop
def Lq11_0 (xq10:Tq10) (K:(List Eng.V)→Bool→Bool→Prop):(Q43→Prop)→Q43→Prop:=fun k4 x5 =>
 (if decide (x5.1.2.2.2.1 < x5.1.2.2.1) then
 (if 0≤x5.1.2.2.2.1∧x5.1.2.2.2.1 < (↑(List.length x5.2.1.1):Int) then
 (Eng.asStr (Eng.getC x5.2.1.1 (Int.toNat x5.1.2.2.2.1) (0:Nat)) False fun t6 =>
 xq10 t6 (fun r7 r8 r9 r10 r11 r12 r13 =>
 (if Eng.roomOk (List.length x5.2.2.1+List.length [Eng.V.agg [Eng.V.c (Value.string r7.1),Eng.V.sl (1:Nat) false r8,Eng.V.sl (1:Nat) false r11,Eng.V.c (Value.bool r7.2.2.2.1)]]) (72:Nat) then
 (lt (x5.2.2.1++[Eng.V.agg [Eng.V.c (Value.string r7.1),Eng.V.sl (1:Nat) false r8,Eng.V.sl (1:Nat) false r11,Eng.V.c (Value.bool r7.2.2.2.1)]]) fun v14 =>
 k4 (((),(),x5.1.2.2.1,w64 (x5.1.2.2.2.1+1),()),x5.2.1,v14,()))
 else
 False)))
 else
 False)
 else
 K x5.2.2.1 true false)
def Lq11_0p:Lp:=⟨452,[.trim 452,.fat 2 4 368,.trim 452],pT44,pH45,0⟩
def Yq11 (xq0r:Tq0r) (xq10:Tq10) (a0:ByteArray) (K:(List Eng.V)→Bool→Bool→Prop):Prop :=
 xq0r a0 (fun r1 r2 r3 =>
 lp (Lq11_0 xq10 K) (((),(),(↑(List.length r1):Int),0,()),(r1,r2,r3),[],()))
def Xq11:Tq11:=Yq11 Xq0r Xq10
def Jq11 (X:Tq11):Inst:=mkI 22 pL0 .nil pL7 pH46 X
def Iq11:Inst:=Jq11 Xq11
theorem Eq11 (xq0r:Tq0r) (xq10:Tq10):EqF Tryd.prog 19 gives Tryd.f22 [Jq0r xq0r,Jq10 xq10] [Lq11_0p] (Jq11 (Yq11 xq0r xq10)):=fun x y K=>by kernel_rfl
theorem Iq11_ok:InstOk Tryd.prog G.1 Iq11:=iok (gives:=gives) [Lq11_0p] (okCons Iq0r_ok (okCons Iq10_ok okNil)) 19 follows Tryd.func22 (by kernel_rfl) (fun x=>by kernel_rfl) (Eq11 Xq0r Xq10)
abbrev Tq1f:Type:=Int→Int→(Int→Bool→Prop)→Prop
def Yq1f (a0:Int) (a1:Int) (K:Int→Bool→Prop):Prop :=
 (lt (!decide (w64 (a0 - a1) < a0) == decide (a1 > 0)) fun v2 =>
 (if v2 then
 (if (a1 != 0) then
 K 0 false
 else
 K (w64 (a0 - a1)) true)
 else
 K (w64 (a0 - a1)) true))
def Xq1f:Tq1f:=Yq1f
def Jq1f (X:Tq1f):Inst:=mkI 36 pL20 .nil pL21 .nil X
def Iq1f:Inst:=Jq1f Xq1f
theorem Eq1f:EqF Tryd.prog 21 gives Tryd.f36 [] [] (Jq1f (Yq1f)):=fun x y K=>by kernel_rfl
theorem Iq1f_ok:InstOk Tryd.prog G.1 Iq1f:=iok (gives:=gives) [] okNil 21 follows Tryd.func36 (by kernel_rfl) (fun x=>by kernel_rfl) (Eq1f)
abbrev Tq0y:Type:=Int→(Int→Bool→Prop)→Prop
def Yq0y (xq1f:Tq1f) (a0:Int) (K:Int→Bool→Prop):Prop :=
 (if decide (a0 < 0) then
 K 0 false
 else
 xq1f a0 2208988800 (fun r1 r2 =>
 K r1 r2))
def Xq0y:Tq0y:=Yq0y Xq1f
def Jq0y (X:Tq0y):Inst:=mkI 24 pL2 .nil pL21 .nil X
def Iq0y:Inst:=Jq0y Xq0y
theorem Eq0y (xq1f:Tq1f):EqF Tryd.prog 10 gives Tryd.f24 [Jq1f xq1f] [] (Jq0y (Yq0y xq1f)):=fun x y K=>by kernel_rfl
theorem Iq0y_ok:InstOk Tryd.prog G.1 Iq0y:=iok (gives:=gives) [] (okCons Iq1f_ok okNil) 10 follows Tryd.func24 (by kernel_rfl) (fun x=>by kernel_rfl) (Eq0y Xq1f)
abbrev Tq1h:Type:=Int→Int→(Int→Int→Bool→Prop)→Prop
def Yq1h (a0:Int) (a1:Int) (K:Int→Int→Bool→Prop):Prop :=
 (if decide (a1 < 1) then
 K 0 0 false
 else
 (if a1=0 then
 False
 else
 (if a1=0 then
 False
 else
 (if decide (Int.tmod a0 a1 < 0) then
 (lt (w64 (w64 (Int.tdiv a0 a1) - 1)) fun v2 =>
 K v2 (w64 (Int.tmod a0 a1+a1)) true)
 else
 K (w64 (Int.tdiv a0 a1)) (Int.tmod a0 a1) true))))
def Xq1h:Tq1h:=Yq1h
def Jq1h (X:Tq1h):Inst:=mkI 50 pL20 .nil pL47 .nil X
def Iq1h:Inst:=Jq1h Xq1h
theorem Eq1h:EqF Tryd.prog 24 gives Tryd.f50 [] [] (Jq1h (Yq1h)):=fun x y K=>by kernel_rfl
theorem Iq1h_ok:InstOk Tryd.prog G.1 Iq1h:=iok (gives:=gives) [] okNil 24 follows Tryd.func50 (by kernel_rfl) (fun x=>by kernel_rfl) (Eq1h)
abbrev Tq00:Type:=(List Eng.V)→((List Eng.V)→Bool→Bool→Prop)→Prop
def Yq00 (a0:(List Eng.V)) (K:(List Eng.V)→Bool→Bool→Prop):Prop :=
 (if List.length a0=(0:Nat) then
 (
 K [] true true
 ∧
 (if Eng.roomOk ((0:Nat)+List.length a0) (24:Nat) then
 K ([]++a0) true false
 else
 False))
 else
 (if Eng.roomOk ((0:Nat)+List.length a0) (24:Nat) then
 K ([]++a0) true false
 else
 False))
def Xq00:Tq00:=Yq00
def Jq00 (X:Tq00):Inst:=mkI 69 pL48 .nil pL7 pH49 X
def Iq00:Inst:=Jq00 Xq00
theorem Eq00:EqF Tryd.prog 8 gives Tryd.f69 [] [] (Jq00 (Yq00)):=fun x y K=>by kernel_rfl
theorem Iq00_ok:InstOk Tryd.prog G.1 Iq00:=iok (gives:=gives) [] okNil 8 follows Tryd.func69 (by kernel_rfl) (fun x=>by kernel_rfl) (Eq00)
abbrev Tq1c:Type:=Int→(Int→Int→Int→Bool→Prop)→Prop
def Yq1c (xq1h:Tq1h) (a0:Int) (K:Int→Int→Int→Bool→Prop):Prop :=
 (if decide (a0 < (-719162)) then
 K 0 0 0 false
 else
 (if decide (a0 > 2932896) then
 K 0 0 0 false
 else
 xq1h (w64 (a0+719468)) 146097 (fun r1 r2 r3 =>
 (lt (w64 (r2 - w64 (Int.tdiv r2 1460))) fun v4 =>
 (lt (w64 (v4+w64 (Int.tdiv r2 36524))) fun v5 =>
 (lt (w64 (v5 - w64 (Int.tdiv r2 146096))) fun v6 =>
 (lt (w64 (365 * w64 (Int.tdiv v6 365))) fun v7 =>
 (lt (w64 (Int.tdiv (w64 (Int.tdiv v6 365)) 4)) fun v8 =>
 (lt (w64 (Int.tdiv (w64 (Int.tdiv v6 365)) 100)) fun v9 =>
 (lt (w64 (w64 (v7+v8) - v9)) fun v10 =>
 (lt (w64 (5 * w64 (r2 - v10))) fun v11 =>
 (lt (w64 (Int.tdiv (w64 (v11+2)) 153)) fun v12 =>
 (lt (w64 (w64 (153 * v12)+2)) fun v13 =>
 (lt (w64 (w64 (r2 - v10) - w64 (Int.tdiv v13 5))) fun v14 =>
 (if decide (w64 (v12+3) > 12) then
 (lt (w64 (w64 (v12+3) - 12)) fun v15 =>
 (lt (w64 (w64 (Int.tdiv v6 365)+1)) fun v16 =>
 (lt (w64 (w64 (400 * r1)+v16)) fun v17 =>
 K v17 v15 (w64 (v14+1)) true)))
 else
 (lt (w64 (w64 (400 * r1)+w64 (Int.tdiv v6 365))) fun v18 =>
 K v18 (w64 (v12+3)) (w64 (v14+1)) true))))))))))))))))
def Xq1c:Tq1c:=Yq1c Xq1h
def Jq1c (X:Tq1c):Inst:=mkI 73 pL2 .nil pL50 .nil X
def Iq1c:Inst:=Jq1c Xq1c
theorem Eq1c (xq1h:Tq1h):EqF Tryd.prog 69 gives Tryd.f73 [Jq1h xq1h] [] (Jq1c (Yq1c xq1h)):=fun x y K=>by kernel_rfl
theorem Iq1c_ok:InstOk Tryd.prog G.1 Iq1c:=iok (gives:=gives) [] (okCons Iq1h_ok okNil) 69 follows Tryd.func73 (by kernel_rfl) (fun x=>by kernel_rfl) (Eq1c Xq1h)
abbrev Tq1b:Type:=Int→(Bool→Prop)→Prop
def Yq1b (a0:Int) (K:Bool→Prop):Prop :=
 (if (Int.tmod a0 (4 :Int) == 0) then
 (if (Int.tmod a0 (100 :Int) != 0) then
 K true
 else
 K (Int.tmod a0 (400 :Int) == 0))
 else
 K false)
def Xq1b:Tq1b:=Yq1b
def Jq1b (X:Tq1b):Inst:=mkI 87 pL2 .nil pL9 .nil X
def Iq1b:Inst:=Jq1b Xq1b
theorem Eq1b:EqF Tryd.prog 16 gives Tryd.f87 [] [] (Jq1b (Yq1b)):=fun x y K=>by kernel_rfl
theorem Iq1b_ok:InstOk Tryd.prog G.1 Iq1b:=iok (gives:=gives) [] okNil 16 follows Tryd.func87 (by kernel_rfl) (fun x=>by kernel_rfl) (Eq1b)
abbrev Tq17:Type:=Int→Int→(Int→Bool→Prop)→Prop
def Yq17 (xq1b:Tq1b) (a0:Int) (a1:Int) (K:Int→Bool→Prop):Prop :=
 (if decide (a0 < 1) then
 K 0 false
 else
 (if decide (a0 > 9999) then
 K 0 false
 else
 (if decide (a1 < 1) then
 K 0 false
 else
 (if decide (a1 > 12) then
 K 0 false
 else
 (if 0≤w64 (a1 - 1)∧w64 (a1 - 1) < 12 then
 (Eng.asInt IntKind.i64 ([Eng.V.c (Value.int IntKind.i64 31),Eng.V.c (Value.int IntKind.i64 28),Eng.V.c (Value.int IntKind.i64 31),Eng.V.c (Value.int IntKind.i64 30),Eng.V.c (Value.int IntKind.i64 31),Eng.V.c (Value.int IntKind.i64 30),Eng.V.c (Value.int IntKind.i64 31),Eng.V.c (Value.int IntKind.i64 31),Eng.V.c (Value.int IntKind.i64 30),Eng.V.c (Value.int IntKind.i64 31),Eng.V.c (Value.int IntKind.i64 30),Eng.V.c (Value.int IntKind.i64 31)][Int.toNat (w64 (a1 - 1)) * (1:Nat)]?) False fun n2 =>
 (if (a1 == 2) then
 xq1b a0 (fun r3 =>
 (if r3 then
 K (w64 (n2+1)) true
 else
 K n2 true))
 else
 K n2 true))
 else
 False)))))
def Xq17:Tq17:=Yq17 Xq1b
def Jq17 (X:Tq17):Inst:=mkI 74 pL20 .nil pL21 .nil X
def Iq17:Inst:=Jq17 Xq17
theorem Eq17 (xq1b:Tq1b):EqF Tryd.prog 34 gives Tryd.f74 [Jq1b xq1b] [] (Jq17 (Yq17 xq1b)):=fun x y K=>by kernel_rfl
theorem Iq17_ok:InstOk Tryd.prog G.1 Iq17:=iok (gives:=gives) [] (okCons Iq1b_ok okNil) 34 follows Tryd.func74 (by kernel_rfl) (fun x=>by kernel_rfl) (Eq17 Xq1b)
abbrev Tq1l:Type:=Int→(Bool→Prop)→Prop
def Yq1l (xq1c:Tq1c) (xq17:Tq17) (a0:Int) (K:Bool→Prop):Prop :=
 xq1c a0 (fun r1 r2 r3 r4 =>
 xq17 r1 r2 (fun r5 r6 =>
 (if r4 then
 K (r3 == r5)
 else
 K false)))
def Xq1l:Tq1l:=Yq1l Xq1c Xq17
def Jq1l (X:Tq1l):Inst:=mkI 55 pL2 .nil pL9 .nil X
def Iq1l:Inst:=Jq1l Xq1l
theorem Eq1l (xq1c:Tq1c) (xq17:Tq17):EqF Tryd.prog 28 gives Tryd.f55 [Jq1c xq1c,Jq17 xq17] [] (Jq1l (Yq1l xq1c xq17)):=fun x y K=>by kernel_rfl
theorem Iq1l_ok:InstOk Tryd.prog G.1 Iq1l:=iok (gives:=gives) [] (okCons Iq1c_ok (okCons Iq17_ok okNil)) 28 follows Tryd.func55 (by kernel_rfl) (fun x=>by kernel_rfl) (Eq1l Xq1c Xq17)
abbrev Tq0x:Type:=Int→Q51→Int→(Int→Prop)→Prop
def Yq0x (xq1l:Tq1l) (a0:Int) (a1:Q51) (a2:Int) (K:Int→Prop):Prop :=
 (if decide (a0≥200) then
 K 8
 else
 (if decide (a1.1 < 730) then
 (if decide (a1.1 < 730) then
 K 9
 else
 xq1l a1.1 (fun r3 =>
 (if (!r3) then
 K 5
 else
 (if (a1.2.1 != 1) then
 (if (a1.2.1 != (-1)) then
 K 6
 else
 (if decide (a1.1≤a2) then
 K 4
 else
 K 0))
 else
 (if decide (a1.1≤a2) then
 K 4
 else
 K 0)))))
 else
 (if decide (a1.1≥2932896) then
 K 9
 else
 xq1l a1.1 (fun r4 =>
 (if (!r4) then
 K 5
 else
 (if (a1.2.1 != 1) then
 (if (a1.2.1 != (-1)) then
 K 6
 else
 (if decide (a1.1≤a2) then
 K 4
 else
 K 0))
 else
 (if decide (a1.1≤a2) then
 K 4
 else
 K 0)))))))
def Xq0x:Tq0x:=Yq0x Xq1l
def Jq0x (X:Tq0x):Inst:=mkI 40 pL52 .nil pL2 .nil X
def Iq0x:Inst:=Jq0x Xq0x
theorem Eq0x (xq1l:Tq1l):EqF Tryd.prog 36 gives Tryd.f40 [Jq1l xq1l] [] (Jq0x (Yq0x xq1l)):=fun x y K=>by kernel_rfl
theorem Iq0x_ok:InstOk Tryd.prog G.1 Iq0x:=iok (gives:=gives) [] (okCons Iq1l_ok okNil) 36 follows Tryd.func40 (by kernel_rfl) (fun x=>by kernel_rfl) (Eq0x Xq1l)
abbrev Tq0u:Type:=Q53→(Int→Int→Prop)→Prop
def Lq0u_0 (xq0x:Tq0x) (K:Int→Int→Prop):(Q54→Prop)→Q54→Prop:=fun k1 x2 =>
 (if decide (x2.1.2.2.2.2.2.2.1 < x2.1.2.2.2.2.2.1) then
 (if 0≤x2.1.2.2.2.2.2.2.1∧x2.1.2.2.2.2.2.2.1 < (↑(List.length x2.1.2.2.2.2.1):Int) then
 (Eng.asInt IntKind.i64 (Eng.getC x2.1.2.2.2.2.1 (Int.toNat x2.1.2.2.2.2.2.2.1) (0:Nat)) False fun n3 =>
 (Eng.asInt IntKind.i64 (Eng.getC x2.1.2.2.2.2.1 (Int.toNat x2.1.2.2.2.2.2.2.1) (1:Nat)) False fun n4 =>
 (Eng.asBool (Eng.getC x2.1.2.2.2.2.1 (Int.toNat x2.1.2.2.2.2.2.2.1) (2:Nat)) False fun b5 =>
 xq0x x2.1.2.2.2.2.2.2.1 (n3,n4,b5,()) x2.1.2.2.2.1 (fun r6 =>
 (if (r6 != 0) then
 K x2.1.2.2.2.2.2.2.1 r6
 else
 k1 (((),x2.1.2.1,x2.1.2.2.1,n3,x2.1.2.2.2.2.1,x2.1.2.2.2.2.2.1,w64 (x2.1.2.2.2.2.2.2.1+1),()),x2.2))))))
 else
 False)
 else
 (if x2.2.1.2.1 then
 (lt (w64 (w64 (x2.1.2.2.2.1+1) * 86400)) fun v7 =>
 (if decide (x2.2.1.2.2.1 < if 63072000 > v7 then 63072000 else v7) then
 K (↑(List.length x2.2.1.1):Int) 9
 else
 (if decide (x2.2.1.2.2.1 > 253402300799) then
 K (↑(List.length x2.2.1.1):Int) 9
 else
 K (↑(List.length x2.2.1.1):Int) 0)))
 else
 (if decide (x2.2.1.2.2.1 < 0) then
 K (↑(List.length x2.2.1.1):Int) 9
 else
 (if decide (x2.2.1.2.2.1 > 0) then
 K (↑(List.length x2.2.1.1):Int) 9
 else
 K (↑(List.length x2.2.1.1):Int) 0))))
def Lq0u_0p:Lp:=⟨14366,[.trim 14366],pT55,pH56,0⟩
def Yq0u (xq0x:Tq0x) (a0:Q53) (K:Int→Int→Prop):Prop :=
 lp (Lq0u_0 xq0x K) (((),0,0,729,a0.1,(↑(List.length a0.1):Int),0,()),a0,())
def Xq0u:Tq0u:=Yq0u Xq0x
def Jq0u (X:Tq0u):Inst:=mkI 27 pL57 .nil pL20 .nil X
def Iq0u:Inst:=Jq0u Xq0u
theorem Eq0u (xq0x:Tq0x):EqF Tryd.prog 51 gives Tryd.f27 [Jq0x xq0x] [Lq0u_0p] (Jq0u (Yq0u xq0x)):=fun x y K=>by kernel_rfl
theorem Iq0u_ok:InstOk Tryd.prog G.1 Iq0u:=iok (gives:=gives) [Lq0u_0p] (okCons Iq0x_ok okNil) 51 follows Tryd.func27 (by kernel_rfl) (fun x=>by kernel_rfl) (Eq0u Xq0x)
abbrev Tq1d:Type:=Q53→Q51→(Q58→Int→(List Eng.V)→Bool→Bool→Prop)→Prop
def Yq1d (xq00:Tq00) (xq0u:Tq0u) (a0:Q53) (a1:Q51) (K:Q58→Int→(List Eng.V)→Bool→Bool→Prop):Prop :=
 (dup (
 xq00 a0.1 (fun r2 r3 r4 =>
 (if r3 then
 (if Eng.roomOk (List.length r2+List.length [Eng.V.agg [Eng.V.c (Value.int IntKind.i64 a1.1),Eng.V.c (Value.int IntKind.i64 a1.2.1),Eng.V.c (Value.bool a1.2.2.1)]]) (24:Nat) then
 (lt (r2++[Eng.V.agg [Eng.V.c (Value.int IntKind.i64 a1.1),Eng.V.c (Value.int IntKind.i64 a1.2.1),Eng.V.c (Value.bool a1.2.2.1)]]) fun v5 =>
 xq0u (v5,a0.2) (fun r6 r7 =>
 (if (r7 != 0) then
 (if 0≤(↑(List.length a0.1):Int)∧(↑(List.length a0.1):Int)=(↑(List.length a0.1):Int)∧(↑(List.length a0.1):Int)≤(↑(List.length v5):Int) then
 K ((),a0.2) r7 (List.take (Int.toNat (↑(List.length a0.1):Int)) v5) r3 r4
 else
 False)
 else
 K ((),a0.2) 0 v5 r3 r4)))
 else
 False)
 else
 False))))
def Xq1d:Tq1d:=Yq1d Xq00 Xq0u
def Jq1d (X:Tq1d):Inst:=mkI 51 pL59 .nil pL60 pH49 X
def Iq1d:Inst:=Jq1d Xq1d
theorem Eq1d (xq00:Tq00) (xq0u:Tq0u):EqF Tryd.prog 37 gives Tryd.f51 [Jq00 xq00,Jq0u xq0u] [] (Jq1d (Yq1d xq00 xq0u)):=fun x y K=>by kernel_rfl
theorem Iq1d_ok:InstOk Tryd.prog G.1 Iq1d:=iok (gives:=gives) [] (okCons Iq00_ok (okCons Iq0u_ok okNil)) 37 follows Tryd.func51 (by kernel_rfl) (fun x=>by kernel_rfl) (Eq1d Xq00 Xq0u)
abbrev Tq0j:Type:=Int→Int→(List Eng.V)→Bool→Int→Int→Bool→Q61→(Int→Bool→Int→Int→Bool→(List Eng.V)→Bool→Bool→Q61→Prop)→Prop
def Yq0j (xq0y:Tq0y) (xq1h:Tq1h) (xq1d:Tq1d) (a0:Int) (a1:Int) (a2:(List Eng.V)) (a3:Bool) (a4:Int) (a5:Int) (a6:Bool) (a7:Q61) (K:Int→Bool→Int→Int→Bool→(List Eng.V)→Bool→Bool→Q61→Prop):Prop :=
 xq0y a0 (fun r8 r9 =>
 xq1h r8 86400 (fun r10 r11 r12 =>
 (if (!a6) then
 (if (r8 != 63072000) then
 K 9 a3 a4 a5 a6 a2 false true a7
 else
 (if (a1 != 10) then
 K 9 a3 a4 a5 a6 a2 false true a7
 else
 (if (!a6) then
 K 0 a3 a4 a1 true a2 false true a7
 else
 (if (r11 != 0) then
 K 5 a3 a4 a5 a6 a2 false true a7
 else
 (if (w64 (a1 - a5) != 1) then
 (if (w64 (a1 - a5) != (-1)) then
 K 6 a3 a4 a5 a6 a2 false true a7
 else
 xq1d (a2,a3,a4,()) (w64 (r10 - 1),w64 (a1 - a5),false,()) (fun r13 r14 r15 r16 r17 =>
 K r14 r13.2.1 r13.2.2.1 a1 a6 r15 r16 r17 a7))
 else
 xq1d (a2,a3,a4,()) (w64 (r10 - 1),w64 (a1 - a5),false,()) (fun r18 r19 r20 r21 r22 =>
 K r19 r18.2.1 r18.2.2.1 a1 a6 r20 r21 r22 a7))))))
 else
 (if (!a6) then
 K 0 a3 a4 a1 true a2 false true a7
 else
 (if (r11 != 0) then
 K 5 a3 a4 a5 a6 a2 false true a7
 else
 (if (w64 (a1 - a5) != 1) then
 (if (w64 (a1 - a5) != (-1)) then
 K 6 a3 a4 a5 a6 a2 false true a7
 else
 xq1d (a2,a3,a4,()) (w64 (r10 - 1),w64 (a1 - a5),false,()) (fun r23 r24 r25 r26 r27 =>
 K r24 r23.2.1 r23.2.2.1 a1 a6 r25 r26 r27 a7))
 else
 xq1d (a2,a3,a4,()) (w64 (r10 - 1),w64 (a1 - a5),false,()) (fun r28 r29 r30 r31 r32 =>
 K r29 r28.2.1 r28.2.2.1 a1 a6 r30 r31 r32 a7)))))))
def Xq0j:Tq0j:=Yq0j Xq0y Xq1h Xq1d
def Jq0j (X:Tq0j):Inst:=mkI 35 pL62 pH63 pL2 pH64 X
def Iq0j:Inst:=Jq0j Xq0j
theorem Eq0j (xq0y:Tq0y) (xq1h:Tq1h) (xq1d:Tq1d):EqF Tryd.prog 83 gives Tryd.f35 [Jq0y xq0y,Jq1h xq1h,Jq1d xq1d] [] (Jq0j (Yq0j xq0y xq1h xq1d)):=fun x y K=>by kernel_rfl
theorem Iq0j_ok:InstOk Tryd.prog G.1 Iq0j:=iok (gives:=gives) [] (okCons Iq0y_ok (okCons Iq1h_ok (okCons Iq1d_ok okNil))) 83 follows Tryd.func35 (by kernel_rfl) (fun x=>by kernel_rfl) (Eq0j Xq0y Xq1h Xq1d)
abbrev Tq0k:Type:=Int→Q65→(List Eng.V)→Bool→Int→Int→Bool→Q61→(Int→Bool→Int→Int→Bool→(List Eng.V)→Bool→Bool→Q61→Prop)→Prop
def Yq0k (xq0j:Tq0j) (a0:Int) (a1:Q65) (a2:(List Eng.V)) (a3:Bool) (a4:Int) (a5:Int) (a6:Bool) (a7:Q61) (K:Int→Bool→Int→Int→Bool→(List Eng.V)→Bool→Bool→Q61→Prop):Prop :=
 (if (!a1.2.2.2.1) then
 K 2 a3 a4 a5 a6 a2 false true a7
 else
 (if (ByteArray.toList a1.1 == ByteArray.toList (ByteArray.mk #[(35:UInt8),(36:UInt8)])) then
 (if (ByteArray.toList a1.1 == ByteArray.toList (ByteArray.mk #[(35:UInt8),(36:UInt8)])) then
 (Eng.asMpI IntKind.i64 (Eng.mpGet a1.1 a7) False fun n8 n9 =>
 (if decide (n8 > 0) then
 K 2 a3 a4 a5 a6 a2 false true a7
 else
 (if Option.isSome (Eng.mpGet a1.1 a7) then
 K 0 a3 a4 a5 a6 a2 false true (Eng.mpPut a1.1 (Eng.V.c (Value.int IntKind.i64 a0)) a7)
 else
 False)))
 else
 (if (ByteArray.toList a1.1 == ByteArray.toList (ByteArray.mk #[])) then
 (if (0 :Int)≤0∧0 < (↑(List.length a1.2.2.1):Int) then
 (Eng.asInt IntKind.i64 (Eng.getC a1.2.2.1 (0:Nat) (0:Nat)) False fun n10 =>
 (if (0 :Int)≤1∧1 < (↑(List.length a1.2.2.1):Int) then
 (Eng.asInt IntKind.i64 (Eng.getC a1.2.2.1 (1:Nat) (0:Nat)) False fun n11 =>
 xq0j n10 n11 a2 a3 a4 a5 a6 a7 (fun r12 r13 r14 r15 r16 r17 r18 r19 r20 =>
 K r12 r13 r14 r15 r16 r17 r18 r19 r20))
 else
 False))
 else
 False)
 else
 K 0 a3 a4 a5 a6 a2 false true a7))
 else
 (if (ByteArray.toList a1.1 == ByteArray.toList (ByteArray.mk #[(35:UInt8),(64:UInt8)])) then
 (if (ByteArray.toList a1.1 == ByteArray.toList (ByteArray.mk #[(35:UInt8),(64:UInt8)])) then
 (Eng.asMpI IntKind.i64 (Eng.mpGet a1.1 a7) False fun n21 n22 =>
 (if decide (n21 > 0) then
 K 2 a3 a4 a5 a6 a2 false true a7
 else
 (if Option.isSome (Eng.mpGet a1.1 a7) then
 K 0 a3 a4 a5 a6 a2 false true (Eng.mpPut a1.1 (Eng.V.c (Value.int IntKind.i64 a0)) a7)
 else
 False)))
 else
 (if (ByteArray.toList a1.1 == ByteArray.toList (ByteArray.mk #[])) then
 (if (0 :Int)≤0∧0 < (↑(List.length a1.2.2.1):Int) then
 (Eng.asInt IntKind.i64 (Eng.getC a1.2.2.1 (0:Nat) (0:Nat)) False fun n23 =>
 (if (0 :Int)≤1∧1 < (↑(List.length a1.2.2.1):Int) then
 (Eng.asInt IntKind.i64 (Eng.getC a1.2.2.1 (1:Nat) (0:Nat)) False fun n24 =>
 xq0j n23 n24 a2 a3 a4 a5 a6 a7 (fun r25 r26 r27 r28 r29 r30 r31 r32 r33 =>
 K r25 r26 r27 r28 r29 r30 r31 r32 r33))
 else
 False))
 else
 False)
 else
 K 0 a3 a4 a5 a6 a2 false true a7))
 else
 (if (ByteArray.toList a1.1 == ByteArray.toList (ByteArray.mk #[(35:UInt8),(104:UInt8)])) then
 (Eng.asMpI IntKind.i64 (Eng.mpGet a1.1 a7) False fun n34 n35 =>
 (if decide (n34 > 0) then
 K 2 a3 a4 a5 a6 a2 false true a7
 else
 (if Option.isSome (Eng.mpGet a1.1 a7) then
 K 0 a3 a4 a5 a6 a2 false true (Eng.mpPut a1.1 (Eng.V.c (Value.int IntKind.i64 a0)) a7)
 else
 False)))
 else
 (if (ByteArray.toList a1.1 == ByteArray.toList (ByteArray.mk #[])) then
 (if (0 :Int)≤0∧0 < (↑(List.length a1.2.2.1):Int) then
 (Eng.asInt IntKind.i64 (Eng.getC a1.2.2.1 (0:Nat) (0:Nat)) False fun n36 =>
 (if (0 :Int)≤1∧1 < (↑(List.length a1.2.2.1):Int) then
 (Eng.asInt IntKind.i64 (Eng.getC a1.2.2.1 (1:Nat) (0:Nat)) False fun n37 =>
 xq0j n36 n37 a2 a3 a4 a5 a6 a7 (fun r38 r39 r40 r41 r42 r43 r44 r45 r46 =>
 K r38 r39 r40 r41 r42 r43 r44 r45 r46))
 else
 False))
 else
 False)
 else
 K 0 a3 a4 a5 a6 a2 false true a7)))))
def Xq0k:Tq0k:=Yq0k Xq0j
def Jq0k (X:Tq0k):Inst:=mkI 23 pL66 pH63 pL2 pH64 X
def Iq0k:Inst:=Jq0k Xq0k
theorem Eq0k (xq0j:Tq0j):EqF Tryd.prog 43 gives Tryd.f23 [Jq0j xq0j] [] (Jq0k (Yq0k xq0j)):=fun x y K=>by kernel_rfl
theorem Iq0k_ok:InstOk Tryd.prog G.1 Iq0k:=iok (gives:=gives) [] (okCons Iq0j_ok okNil) 43 follows Tryd.func23 (by kernel_rfl) (fun x=>by kernel_rfl) (Eq0k Xq0j)
abbrev Tq0n:Type:=Int→Int→(Q58→Q67→(List Eng.V)→Bool→Bool→Prop)→Prop
def Yq0n (a0:Int) (a1:Int) (K:Q58→Q67→(List Eng.V)→Bool→Bool→Prop):Prop :=
 K ((),false,0,()) (a0,a1,()) [] true true
def Xq0n:Tq0n:=Yq0n
def Jq0n (X:Tq0n):Inst:=mkI 21 pL20 .nil pL68 pH49 X
def Iq0n:Inst:=Jq0n Xq0n
theorem Eq0n:EqF Tryd.prog 10 gives Tryd.f21 [] [] (Jq0n (Yq0n)):=fun x y K=>by kernel_rfl
theorem Iq0n_ok:InstOk Tryd.prog G.1 Iq0n:=iok (gives:=gives) [] okNil 10 follows Tryd.func21 (by kernel_rfl) (fun x=>by kernel_rfl) (Eq0n)
abbrev Tq0w:Type:=Q53→(Bool→Prop)→Prop
def Yq0w (xq0u:Tq0u) (a0:Q53) (K:Bool→Prop):Prop :=
 xq0u a0 (fun r1 r2 =>
 K (r2 == 0))
def Xq0w:Tq0w:=Yq0w Xq0u
def Jq0w (X:Tq0w):Inst:=mkI 12 pL57 .nil pL9 .nil X
def Iq0w:Inst:=Jq0w Xq0w
theorem Eq0w (xq0u:Tq0u):EqF Tryd.prog 12 gives Tryd.f12 [Jq0u xq0u] [] (Jq0w (Yq0w xq0u)):=fun x y K=>by kernel_rfl
theorem Iq0w_ok:InstOk Tryd.prog G.1 Iq0w:=iok (gives:=gives) [] (okCons Iq0u_ok okNil) 12 follows Tryd.func12 (by kernel_rfl) (fun x=>by kernel_rfl) (Eq0w Xq0u)
abbrev Tq06:Type:=Int→((List Eng.V)→Bool→Bool→Prop)→Prop
def Yq06 (a0:Int) (K:(List Eng.V)→Bool→Bool→Prop):Prop :=
 (if decide (a0 < 0) then
 False
 else
 (if decide (w64 (a0 - 0) > 0) then
 (if 0≤w64 (a0 - 0)∧w64 (a0 - 0)≤4398046511104 then
 (if Eng.roomOk ((0:Nat)+List.length (List.replicate (Int.toNat (w64 (a0 - 0))) (Eng.ofVal (Value.int IntKind.u8 0)))) (1:Nat) then
 K [] true false
 else
 False)
 else
 False)
 else
 K [] true true))
def Xq06:Tq06:=Yq06
def Jq06 (X:Tq06):Inst:=mkI 70 pL69 .nil pL7 pH8 X
def Iq06:Inst:=Jq06 Xq06
theorem Eq06:EqF Tryd.prog 27 gives Tryd.f70 [] [] (Jq06 (Yq06)):=fun x y K=>by kernel_rfl
theorem Iq06_ok:InstOk Tryd.prog G.1 Iq06:=iok (gives:=gives) [] okNil 27 follows Tryd.func70 (by kernel_rfl) (fun x=>by kernel_rfl) (Eq06)
abbrev Tq05:Type:=(List Eng.V)→((List Eng.V)→Bool→Bool→Prop)→Prop
def Lq05_1 (K:(List Eng.V)→Bool→Bool→Prop) (k1:Q70→Prop):(Q71→Prop)→Q71→Prop:=fun k8 x9 =>
 (if decide (x9.1.2.2.2.2.1 < x9.1.2.2.2.1) then
 (if 0≤x9.1.2.2.2.2.1∧x9.1.2.2.2.2.1 < (↑(List.length x9.1.2.2.1):Int) then
 (Eng.asSl (1:Nat) (Eng.getC x9.1.2.2.1 (Int.toNat x9.1.2.2.2.2.1) (0:Nat)) False fun l10 l11 =>
 (if x9.2.1.2.1 then
 (if Eng.roomOk (List.length x9.2.1.1+List.length l11) (1:Nat) then
 k8 (((),(),x9.1.2.2.1,x9.1.2.2.2.1,w64 (x9.1.2.2.2.2.1+1),()),(x9.2.1.1++l11,x9.2.1.2),())
 else
 False)
 else
 False))
 else
 False)
 else
 K x9.2.1.1 x9.2.1.2.1 x9.2.1.2.2)
def Lq05_1p:Lp:=⟨234881092,[.trim 234881092],pT72,pH73,0⟩
def Lq05_0 (xq06:Tq06) (K:(List Eng.V)→Bool→Bool→Prop):(Q70→Prop)→Q70→Prop:=fun k1 x2 =>
 (if decide (x2.1.2.2.2.2.2.1 < x2.1.2.2.2.2.1) then
 (if 0≤x2.1.2.2.2.2.2.1∧x2.1.2.2.2.2.2.1 < (↑(List.length x2.1.2.2.2.1):Int) then
 (Eng.asSl (1:Nat) (Eng.getC x2.1.2.2.2.1 (Int.toNat x2.1.2.2.2.2.2.1) (0:Nat)) False fun l3 l4 =>
 (if decide (w64 (x2.1.2.2.1+(↑(List.length l4):Int)) < 0) then
 False
 else
 k1 ((x2.1.1,(),w64 (x2.1.2.2.1+(↑(List.length l4):Int)),x2.1.2.2.2.1,x2.1.2.2.2.2.1,w64 (x2.1.2.2.2.2.2.1+1),()),())))
 else
 False)
 else
 xq06 x2.1.2.2.1 (fun r5 r6 r7 =>
 lp (Lq05_1 K k1) (((),(),x2.1.1,(↑(List.length x2.1.1):Int),0,()),(r5,r6,r7),())))
def Lq05_0p:Lp:=⟨3597,[.trim 3597],pT74,.nil,0⟩
def Yq05 (xq06:Tq06) (a0:(List Eng.V)) (K:(List Eng.V)→Bool→Bool→Prop):Prop :=
 lp (Lq05_0 xq06 K) ((a0,(),0,a0,(↑(List.length a0):Int),0,()),())
def Xq05:Tq05:=Yq05 Xq06
def Jq05 (X:Tq05):Inst:=mkI 53 pL75 .nil pL7 pH8 X
def Iq05:Inst:=Jq05 Xq05
theorem Eq05 (xq06:Tq06):EqF Tryd.prog 36 gives Tryd.f53 [Jq06 xq06] [Lq05_0p,Lq05_1p] (Jq05 (Yq05 xq06)):=fun x y K=>by kernel_rfl
theorem Iq05_ok:InstOk Tryd.prog G.1 Iq05:=iok (gives:=gives) [Lq05_0p,Lq05_1p] (okCons Iq06_ok okNil) 36 follows Tryd.func53 (by kernel_rfl) (fun x=>by kernel_rfl) (Eq05 Xq06)
abbrev Tq08:Type:=Int→Int→(Int→Prop)→Prop
def Yq08 (a0:Int) (a1:Int) (K:Int→Prop):Prop :=
 (lt (wu32 (a0 * 2 ^ Min.min (Int.toNat (wu64 (↑(BitVec.toNat (BitVec.ofInt (64:Nat) (wu64 a1) &&& BitVec.ofInt (64:Nat) 31)):Int))) (32:Nat))) fun v2 =>
 (lt (wu64 (32 - wu64 (↑(BitVec.toNat (BitVec.ofInt (64:Nat) (wu64 a1) &&& BitVec.ofInt (64:Nat) 31)):Int))) fun v3 =>
 (if v3 < 0 then
 False
 else
 K (wu32 (↑(BitVec.toNat (BitVec.ofInt (32:Nat) v2 ||| BitVec.ofInt (32:Nat) (Int.fdiv a0 (2 ^ Min.min (Int.toNat v3) (32:Nat))))):Int)))))
def Xq08:Tq08:=Yq08
def Jq08 (X:Tq08):Inst:=mkI 71 pL76 .nil pL77 .nil X
def Iq08:Inst:=Jq08 Xq08
theorem Eq08:EqF Tryd.prog 17 gives Tryd.f71 [] [] (Jq08 (Yq08)):=fun x y K=>by kernel_rfl
theorem Iq08_ok:InstOk Tryd.prog G.1 Iq08:=iok (gives:=gives) [] okNil 17 follows Tryd.func71 (by kernel_rfl) (fun x=>by kernel_rfl) (Eq08)
abbrev Tq0i:Type:=Int→Int→Int→Int→Int→Int→Int→Int→(Int→Int→Int→Int→Int→Prop)→Prop
def Yq0i (xq08:Tq08) (a0:Int) (a1:Int) (a2:Int) (a3:Int) (a4:Int) (a5:Int) (a6:Int) (a7:Int) (K:Int→Int→Int→Int→Int→Prop):Prop :=
 xq08 a3 5 (fun r8 =>
 (lt (wu32 (wu32 (r8+a0)+a7)) fun v9 =>
 (lt (wu32 (wu32 (v9+a1)+a2)) fun v10 =>
 xq08 a4 30 (fun r11 =>
 K v10 a3 r11 a5 a6))))
def Xq0i:Tq0i:=Yq0i Xq08
def Jq0i (X:Tq0i):Inst:=mkI 72 pL78 pH79 .nil pH79 X
def Iq0i:Inst:=Jq0i Xq0i
theorem Eq0i (xq08:Tq08):EqF Tryd.prog 58 gives Tryd.f72 [Jq08 xq08] [] (Jq0i (Yq0i xq08)):=fun x y K=>by kernel_rfl
theorem Iq0i_ok:InstOk Tryd.prog G.1 Iq0i:=iok (gives:=gives) [] (okCons Iq08_ok okNil) 58 follows Tryd.func72 (by kernel_rfl) (fun x=>by kernel_rfl) (Eq0i Xq08)
abbrev Tq0f:Type:=(List Eng.V)→Int→Int→Int→Int→Int→(Int→Int→Int→Int→Int→Prop)→Prop
def Lq0f_4p:Lp:=⟨261336857795280739939871698507597986398209,[],.nil,.nil,12⟩
def Lq0f_3 (xq0i:Tq0i) (K:Int→Int→Int→Int→Int→Prop) (a1:Int) (a2:Int) (a3:Int) (a4:Int) (a5:Int) (k6:Q80→Prop) (k16:Q81→Prop):(Q82→Prop)→Q82→Prop:=fun k26 x27 =>
 (if decide (x27.1.2.2.2.1 < 80) then
 (if 0≤x27.1.2.2.2.1∧x27.1.2.2.2.1 < 80 then
 (Eng.asInt IntKind.u32 (x27.1.2.2.1[Int.toNat x27.1.2.2.2.1 * (1:Nat)]?) False fun n28 =>
 (if (w64 (Int.tdiv x27.1.2.2.2.1 20) == 0) then
 (lt (wu32 (↑(BitVec.toNat (BitVec.ofInt (32:Nat) x27.2.1.2.1 &&& BitVec.ofInt (32:Nat) (wu32 (↑(BitVec.toNat (BitVec.ofInt (32:Nat) x27.2.1.2.2.1 ^^^ BitVec.ofInt (32:Nat) x27.2.1.2.2.2.1)):Int)))):Int)) fun v29 =>
 xq0i (wu32 (↑(BitVec.toNat (BitVec.ofInt (32:Nat) x27.2.1.2.2.2.1 ^^^ BitVec.ofInt (32:Nat) v29)):Int)) 1518500249 n28 x27.2.1.1 x27.2.1.2.1 x27.2.1.2.2.1 x27.2.1.2.2.2.1 x27.2.1.2.2.2.2.1 (fun r30 r31 r32 r33 r34 =>
 k26 (((),(),x27.1.2.2.1,w64 (x27.1.2.2.2.1+1),()),(r30,r31,r32,r33,r34,()),x27.2.2)))
 else
 (if (w64 (Int.tdiv x27.1.2.2.2.1 20) == 1) then
 (lt (wu32 (↑(BitVec.toNat (BitVec.ofInt (32:Nat) (wu32 (↑(BitVec.toNat (BitVec.ofInt (32:Nat) x27.2.1.2.1 ^^^ BitVec.ofInt (32:Nat) x27.2.1.2.2.1)):Int)) ^^^ BitVec.ofInt (32:Nat) x27.2.1.2.2.2.1)):Int)) fun v35 =>
 xq0i v35 1859775393 n28 x27.2.1.1 x27.2.1.2.1 x27.2.1.2.2.1 x27.2.1.2.2.2.1 x27.2.1.2.2.2.2.1 (fun r36 r37 r38 r39 r40 =>
 k26 (((),(),x27.1.2.2.1,w64 (x27.1.2.2.2.1+1),()),(r36,r37,r38,r39,r40,()),x27.2.2)))
 else
 (if (w64 (Int.tdiv x27.1.2.2.2.1 20) == 2) then
 (lt (wu32 (↑(BitVec.toNat (BitVec.ofInt (32:Nat) x27.2.1.2.2.2.1 &&& BitVec.ofInt (32:Nat) (wu32 (↑(BitVec.toNat (BitVec.ofInt (32:Nat) x27.2.1.2.1 ||| BitVec.ofInt (32:Nat) x27.2.1.2.2.1)):Int)))):Int)) fun v41 =>
 (lt (wu32 (↑(BitVec.toNat (BitVec.ofInt (32:Nat) (wu32 (↑(BitVec.toNat (BitVec.ofInt (32:Nat) x27.2.1.2.1 &&& BitVec.ofInt (32:Nat) x27.2.1.2.2.1)):Int)) ||| BitVec.ofInt (32:Nat) v41)):Int)) fun v42 =>
 xq0i v42 2400959708 n28 x27.2.1.1 x27.2.1.2.1 x27.2.1.2.2.1 x27.2.1.2.2.2.1 x27.2.1.2.2.2.2.1 (fun r43 r44 r45 r46 r47 =>
 k26 (((),(),x27.1.2.2.1,w64 (x27.1.2.2.2.1+1),()),(r43,r44,r45,r46,r47,()),x27.2.2))))
 else
 (lt (wu32 (↑(BitVec.toNat (BitVec.ofInt (32:Nat) (wu32 (↑(BitVec.toNat (BitVec.ofInt (32:Nat) x27.2.1.2.1 ^^^ BitVec.ofInt (32:Nat) x27.2.1.2.2.1)):Int)) ^^^ BitVec.ofInt (32:Nat) x27.2.1.2.2.2.1)):Int)) fun v48 =>
 xq0i v48 3395469782 n28 x27.2.1.1 x27.2.1.2.1 x27.2.1.2.2.1 x27.2.1.2.2.2.1 x27.2.1.2.2.2.2.1 (fun r49 r50 r51 r52 r53 =>
 k26 (((),(),x27.1.2.2.1,w64 (x27.1.2.2.2.1+1),()),(r49,r50,r51,r52,r53,()),x27.2.2)))))))
 else
 False)
 else
 K (wu32 (x27.2.1.1+x27.2.2.1.1)) (wu32 (x27.2.1.2.1+x27.2.2.1.2.1)) (wu32 (x27.2.1.2.2.1+x27.2.2.1.2.2.1)) (wu32 (x27.2.1.2.2.2.1+x27.2.2.1.2.2.2.1)) (wu32 (x27.2.1.2.2.2.2.1+x27.2.2.1.2.2.2.2.1)))
def Lq0f_3p:Lp:=⟨14167099448608935641601,[.trim 14167099448608935641601],pT83,pH84,0⟩
def Lq0f_2 (xq08:Tq08) (xq0i:Tq0i) (K:Int→Int→Int→Int→Int→Prop) (a1:Int) (a2:Int) (a3:Int) (a4:Int) (a5:Int) (k6:Q80→Prop):(Q81→Prop)→Q81→Prop:=fun k16 x17 =>
 (if decide (x17.1.2.2.1 < 80) then
 (if 0≤w64 (x17.1.2.2.1 - 3)∧w64 (x17.1.2.2.1 - 3) < 80 then
 (Eng.asInt IntKind.u32 (Eng.getC x17.2.2.1 (0:Nat) ((0:Nat)+Int.toNat (w64 (x17.1.2.2.1 - 3)) * (1:Nat))) False fun n18 =>
 (if 0≤w64 (x17.1.2.2.1 - 8)∧w64 (x17.1.2.2.1 - 8) < 80 then
 (Eng.asInt IntKind.u32 (Eng.getC x17.2.2.1 (0:Nat) ((0:Nat)+Int.toNat (w64 (x17.1.2.2.1 - 8)) * (1:Nat))) False fun n19 =>
 (if 0≤w64 (x17.1.2.2.1 - 14)∧w64 (x17.1.2.2.1 - 14) < 80 then
 (Eng.asInt IntKind.u32 (Eng.getC x17.2.2.1 (0:Nat) ((0:Nat)+Int.toNat (w64 (x17.1.2.2.1 - 14)) * (1:Nat))) False fun n20 =>
 (lt (wu32 (↑(BitVec.toNat (BitVec.ofInt (32:Nat) (wu32 (↑(BitVec.toNat (BitVec.ofInt (32:Nat) n18 ^^^ BitVec.ofInt (32:Nat) n19)):Int)) ^^^ BitVec.ofInt (32:Nat) n20)):Int)) fun v21 =>
 (if 0≤w64 (x17.1.2.2.1 - 16)∧w64 (x17.1.2.2.1 - 16) < 80 then
 (Eng.asInt IntKind.u32 (Eng.getC x17.2.2.1 (0:Nat) ((0:Nat)+Int.toNat (w64 (x17.1.2.2.1 - 16)) * (1:Nat))) False fun n22 =>
 xq08 (wu32 (↑(BitVec.toNat (BitVec.ofInt (32:Nat) v21 ^^^ BitVec.ofInt (32:Nat) n22)):Int)) 1 (fun r23 =>
 (if 0≤x17.1.2.2.1∧x17.1.2.2.1 < 80 then
 (if (0:Nat) < List.length x17.2.2.1 then
 (if (0:Nat)+Int.toNat x17.1.2.2.1 * (1:Nat)+List.length [Eng.V.c (Value.int IntKind.u32 r23)]≤(80:Nat) then
 (lt (List.set x17.2.2.1 (0:Nat) (Eng.setE (List.getD x17.2.2.1 (0:Nat) Eng.V.bad) ((0:Nat)+Int.toNat x17.1.2.2.1 * (1:Nat)) [Eng.V.c (Value.int IntKind.u32 r23)])) fun v24 =>
 k16 (((),(),w64 (x17.1.2.2.1+1),()),x17.2.1,v24,()))
 else
 False)
 else
 False)
 else
 False)))
 else
 False)))
 else
 False))
 else
 False))
 else
 False)
 else
 (Eng.asAgg (x17.2.2.1[(0:Nat)]?) False fun l25 =>
 (if List.length l25=(80:Nat)∧List.all l25 Eng.isC then
 lp (Lq0f_3 xq0i K a1 a2 a3 a4 a5 k6 k16) (((),(),l25,0,()),x17.2.1,x17.2.1,())
 else
 False)))
def Lq0f_2p:Lp:=⟨273,[.trim 273],pT85,pH86,0⟩
def Lq0f_1 (K:Int→Int→Int→Int→Int→Prop) (a1:Int) (a2:Int) (a3:Int) (a4:Int) (a5:Int) (k6:Q80→Prop):(Q87→Prop)→Q87→Prop:=fun k10 x11 =>
 (if decide (x11.1.2.2.2.2.2.2.2.1 < x11.1.2.2.2.2.2.2.1) then
 (if 0≤x11.1.2.2.2.2.2.2.2.1∧x11.1.2.2.2.2.2.2.2.1 < (↑(List.length x11.1.2.2.2.2.2.1):Int) then
 (Eng.asInt IntKind.u8 (Eng.getC x11.1.2.2.2.2.2.1 (Int.toNat x11.1.2.2.2.2.2.2.2.1) (0:Nat)) False fun n12 =>
 (if 0≤x11.1.2.2.2.1∧x11.1.2.2.2.1 < 80 then
 (Eng.asInt IntKind.u32 (Eng.getC x11.2.2.1 (0:Nat) ((0:Nat)+Int.toNat x11.1.2.2.2.1 * (1:Nat))) False fun n13 =>
 (lt (wu32 (↑(BitVec.toNat (BitVec.ofInt (32:Nat) (wu32 (n13 * 256)) ||| BitVec.ofInt (32:Nat) (wu32 n12))):Int)) fun v14 =>
 (if 0≤x11.1.2.2.2.1∧x11.1.2.2.2.1 < 80 then
 (if (0:Nat) < List.length x11.2.2.1 then
 (if (0:Nat)+Int.toNat x11.1.2.2.2.1 * (1:Nat)+List.length [Eng.V.c (Value.int IntKind.u32 v14)]≤(80:Nat) then
 (lt (List.set x11.2.2.1 (0:Nat) (Eng.setE (List.getD x11.2.2.1 (0:Nat) Eng.V.bad) ((0:Nat)+Int.toNat x11.1.2.2.2.1 * (1:Nat)) [Eng.V.c (Value.int IntKind.u32 v14)])) fun v15 =>
 k10 (((),x11.1.2.1,(),x11.1.2.2.2.1,x11.1.2.2.2.2.1,x11.1.2.2.2.2.2.1,x11.1.2.2.2.2.2.2.1,w64 (x11.1.2.2.2.2.2.2.2.1+1),()),x11.2.1,v15,()))
 else
 False)
 else
 False)
 else
 False)))
 else
 False))
 else
 False)
 else
 k6 (((),x11.1.2.1,(),w64 (x11.1.2.2.2.2.1+1),()),x11.2))
def Lq0f_1p:Lp:=⟨469893171,[.trim 469893171],pT88,pH86,0⟩
def Lq0f_0 (xq08:Tq08) (xq0i:Tq0i) (K:Int→Int→Int→Int→Int→Prop) (a1:Int) (a2:Int) (a3:Int) (a4:Int) (a5:Int):(Q80→Prop)→Q80→Prop:=fun k6 x7 =>
 (if decide (x7.1.2.2.2.1 < 16) then
 (lt (w64 (w64 (4 * x7.1.2.2.2.1)+4)) fun v8 =>
 (if 0≤v8∧v8≤(↑(List.length x7.1.2.1):Int) then
 (if 0≤w64 (4 * x7.1.2.2.2.1)∧w64 (4 * x7.1.2.2.2.1)≤v8 then
 (lt (Eng.cutL x7.1.2.1 (Int.toNat (w64 (4 * x7.1.2.2.2.1))) (Int.toNat v8 - Int.toNat (w64 (4 * x7.1.2.2.2.1)))) fun v9 =>
 lp (Lq0f_1 K a1 a2 a3 a4 a5 k6) (((),x7.1.2.1,(),x7.1.2.2.2.1,x7.1.2.2.2.1,v9,(↑(List.length v9):Int),0,()),x7.2))
 else
 False)
 else
 False))
 else
 lp (Lq0f_2 xq08 xq0i K a1 a2 a3 a4 a5 k6) (((),(),16,()),x7.2))
def Lq0f_0p:Lp:=⟨131091,[.trim 131091],pT89,pH86,0⟩
def Yq0f (xq08:Tq08) (xq0i:Tq0i) (a0:(List Eng.V)) (a1:Int) (a2:Int) (a3:Int) (a4:Int) (a5:Int) (K:Int→Int→Int→Int→Int→Prop):Prop :=
 lp (Lq0f_0 xq08 xq0i K a1 a2 a3 a4 a5) (((),a0,(),0,()),(a1,a2,a3,a4,a5,()),[Eng.V.agg [Eng.V.c (Value.int IntKind.u32 0),Eng.V.c (Value.int IntKind.u32 0),Eng.V.c (Value.int IntKind.u32 0),Eng.V.c (Value.int IntKind.u32 0),Eng.V.c (Value.int IntKind.u32 0),Eng.V.c (Value.int IntKind.u32 0),Eng.V.c (Value.int IntKind.u32 0),Eng.V.c (Value.int IntKind.u32 0),Eng.V.c (Value.int IntKind.u32 0),Eng.V.c (Value.int IntKind.u32 0),Eng.V.c (Value.int IntKind.u32 0),Eng.V.c (Value.int IntKind.u32 0),Eng.V.c (Value.int IntKind.u32 0),Eng.V.c (Value.int IntKind.u32 0),Eng.V.c (Value.int IntKind.u32 0),Eng.V.c (Value.int IntKind.u32 0),Eng.V.c (Value.int IntKind.u32 0),Eng.V.c (Value.int IntKind.u32 0),Eng.V.c (Value.int IntKind.u32 0),Eng.V.c (Value.int IntKind.u32 0),Eng.V.c (Value.int IntKind.u32 0),Eng.V.c (Value.int IntKind.u32 0),Eng.V.c (Value.int IntKind.u32 0),Eng.V.c (Value.int IntKind.u32 0),Eng.V.c (Value.int IntKind.u32 0),Eng.V.c (Value.int IntKind.u32 0),Eng.V.c (Value.int IntKind.u32 0),Eng.V.c (Value.int IntKind.u32 0),Eng.V.c (Value.int IntKind.u32 0),Eng.V.c (Value.int IntKind.u32 0),Eng.V.c (Value.int IntKind.u32 0),Eng.V.c (Value.int IntKind.u32 0),Eng.V.c (Value.int IntKind.u32 0),Eng.V.c (Value.int IntKind.u32 0),Eng.V.c (Value.int IntKind.u32 0),Eng.V.c (Value.int IntKind.u32 0),Eng.V.c (Value.int IntKind.u32 0),Eng.V.c (Value.int IntKind.u32 0),Eng.V.c (Value.int IntKind.u32 0),Eng.V.c (Value.int IntKind.u32 0),Eng.V.c (Value.int IntKind.u32 0),Eng.V.c (Value.int IntKind.u32 0),Eng.V.c (Value.int IntKind.u32 0),Eng.V.c (Value.int IntKind.u32 0),Eng.V.c (Value.int IntKind.u32 0),Eng.V.c (Value.int IntKind.u32 0),Eng.V.c (Value.int IntKind.u32 0),Eng.V.c (Value.int IntKind.u32 0),Eng.V.c (Value.int IntKind.u32 0),Eng.V.c (Value.int IntKind.u32 0),Eng.V.c (Value.int IntKind.u32 0),Eng.V.c (Value.int IntKind.u32 0),Eng.V.c (Value.int IntKind.u32 0),Eng.V.c (Value.int IntKind.u32 0),Eng.V.c (Value.int IntKind.u32 0),Eng.V.c (Value.int IntKind.u32 0),Eng.V.c (Value.int IntKind.u32 0),Eng.V.c (Value.int IntKind.u32 0),Eng.V.c (Value.int IntKind.u32 0),Eng.V.c (Value.int IntKind.u32 0),Eng.V.c (Value.int IntKind.u32 0),Eng.V.c (Value.int IntKind.u32 0),Eng.V.c (Value.int IntKind.u32 0),Eng.V.c (Value.int IntKind.u32 0),Eng.V.c (Value.int IntKind.u32 0),Eng.V.c (Value.int IntKind.u32 0),Eng.V.c (Value.int IntKind.u32 0),Eng.V.c (Value.int IntKind.u32 0),Eng.V.c (Value.int IntKind.u32 0),Eng.V.c (Value.int IntKind.u32 0),Eng.V.c (Value.int IntKind.u32 0),Eng.V.c (Value.int IntKind.u32 0),Eng.V.c (Value.int IntKind.u32 0),Eng.V.c (Value.int IntKind.u32 0),Eng.V.c (Value.int IntKind.u32 0),Eng.V.c (Value.int IntKind.u32 0),Eng.V.c (Value.int IntKind.u32 0),Eng.V.c (Value.int IntKind.u32 0),Eng.V.c (Value.int IntKind.u32 0),Eng.V.c (Value.int IntKind.u32 0)]],())
def Xq0f:Tq0f:=Yq0f Xq08 Xq0i
def Jq0f (X:Tq0f):Inst:=mkI 54 pL90 pH79 .nil pH79 X
def Iq0f:Inst:=Jq0f Xq0f
theorem Eq0f (xq08:Tq08) (xq0i:Tq0i):EqF Tryd.prog 151 gives Tryd.f54 [Jq08 xq08,Jq0i xq0i] [Lq0f_0p,Lq0f_1p,Lq0f_2p,Lq0f_3p,Lq0f_4p] (Jq0f (Yq0f xq08 xq0i)):=fun x y K=>by kernel_rfl
theorem Iq0f_ok:InstOk Tryd.prog G.1 Iq0f:=iok (gives:=gives) [Lq0f_0p,Lq0f_1p,Lq0f_2p,Lq0f_3p,Lq0f_4p] (okCons Iq08_ok (okCons Iq0i_ok okNil)) 151 follows Tryd.func54 (by kernel_rfl) (fun x=>by kernel_rfl) (Eq0f Xq08 Xq0i)
abbrev Tq1j:Type:=(List Eng.V)→(Q91→Prop)→Prop
def Lq1j_2 (K:Q91→Prop) (k6:Q92→Prop) (k9:Q93→Prop):(Q94→Prop)→Q94→Prop:=fun k16 x17 =>
 (if decide (x17.1.2.2.1 < 20) then
 (if 0≤w64 (Int.tdiv x17.1.2.2.1 4)∧w64 (Int.tdiv x17.1.2.2.1 4) < 5 then
 (Eng.asInt IntKind.u32 ([Eng.V.c (Value.int IntKind.u32 x17.2.2.1.1),Eng.V.c (Value.int IntKind.u32 x17.2.2.1.2.1),Eng.V.c (Value.int IntKind.u32 x17.2.2.1.2.2.1),Eng.V.c (Value.int IntKind.u32 x17.2.2.1.2.2.2.1),Eng.V.c (Value.int IntKind.u32 x17.2.2.1.2.2.2.2.1)][(0:Nat)+Int.toNat (w64 (Int.tdiv x17.1.2.2.1 4)) * (1:Nat)]?) False fun n18 =>
 (lt (w64 (24 - w64 (Int.tmod x17.1.2.2.1 (4 :Int) * 8))) fun v19 =>
 (if v19 < 0 then
 False
 else
 (if 0≤x17.1.2.2.1∧x17.1.2.2.1 < 20 then
 (if (0:Nat) < List.length x17.2.1 then
 (if (0:Nat)+Int.toNat x17.1.2.2.1 * (1:Nat)+List.length [Eng.V.c (Value.int IntKind.u8 (wu8 (Int.fdiv n18 (2 ^ Min.min (Int.toNat v19) (32:Nat)))))]≤(20:Nat) then
 (lt (List.set x17.2.1 (0:Nat) (Eng.setE (List.getD x17.2.1 (0:Nat) Eng.V.bad) ((0:Nat)+Int.toNat x17.1.2.2.1 * (1:Nat)) [Eng.V.c (Value.int IntKind.u8 (wu8 (Int.fdiv n18 (2 ^ Min.min (Int.toNat v19) (32:Nat)))))])) fun v20 =>
 k16 (((),(),w64 (x17.1.2.2.1+1),()),v20,x17.2.2))
 else
 False)
 else
 False)
 else
 False))))
 else
 False)
 else
 (Eng.asInt IntKind.u8 (Eng.getC x17.2.1 (0:Nat) (0:Nat)) False fun n21 =>
 (Eng.asInt IntKind.u8 (Eng.getC x17.2.1 (0:Nat) (1:Nat)) False fun n22 =>
 (Eng.asInt IntKind.u8 (Eng.getC x17.2.1 (0:Nat) (2:Nat)) False fun n23 =>
 (Eng.asInt IntKind.u8 (Eng.getC x17.2.1 (0:Nat) (3:Nat)) False fun n24 =>
 (Eng.asInt IntKind.u8 (Eng.getC x17.2.1 (0:Nat) (4:Nat)) False fun n25 =>
 (Eng.asInt IntKind.u8 (Eng.getC x17.2.1 (0:Nat) (5:Nat)) False fun n26 =>
 (Eng.asInt IntKind.u8 (Eng.getC x17.2.1 (0:Nat) (6:Nat)) False fun n27 =>
 (Eng.asInt IntKind.u8 (Eng.getC x17.2.1 (0:Nat) (7:Nat)) False fun n28 =>
 (Eng.asInt IntKind.u8 (Eng.getC x17.2.1 (0:Nat) (8:Nat)) False fun n29 =>
 (Eng.asInt IntKind.u8 (Eng.getC x17.2.1 (0:Nat) (9:Nat)) False fun n30 =>
 (Eng.asInt IntKind.u8 (Eng.getC x17.2.1 (0:Nat) (10:Nat)) False fun n31 =>
 (Eng.asInt IntKind.u8 (Eng.getC x17.2.1 (0:Nat) (11:Nat)) False fun n32 =>
 (Eng.asInt IntKind.u8 (Eng.getC x17.2.1 (0:Nat) (12:Nat)) False fun n33 =>
 (Eng.asInt IntKind.u8 (Eng.getC x17.2.1 (0:Nat) (13:Nat)) False fun n34 =>
 (Eng.asInt IntKind.u8 (Eng.getC x17.2.1 (0:Nat) (14:Nat)) False fun n35 =>
 (Eng.asInt IntKind.u8 (Eng.getC x17.2.1 (0:Nat) (15:Nat)) False fun n36 =>
 (Eng.asInt IntKind.u8 (Eng.getC x17.2.1 (0:Nat) (16:Nat)) False fun n37 =>
 (Eng.asInt IntKind.u8 (Eng.getC x17.2.1 (0:Nat) (17:Nat)) False fun n38 =>
 (Eng.asInt IntKind.u8 (Eng.getC x17.2.1 (0:Nat) (18:Nat)) False fun n39 =>
 (Eng.asInt IntKind.u8 (Eng.getC x17.2.1 (0:Nat) (19:Nat)) False fun n40 =>
 (if (0:Nat) < List.length x17.2.1 then
 (lt (List.set x17.2.1 (0:Nat) (Eng.setE (List.getD x17.2.1 (0:Nat) Eng.V.bad) (0:Nat) [Eng.V.c (Value.int IntKind.u8 n21),Eng.V.c (Value.int IntKind.u8 n22),Eng.V.c (Value.int IntKind.u8 n23),Eng.V.c (Value.int IntKind.u8 n24),Eng.V.c (Value.int IntKind.u8 n25),Eng.V.c (Value.int IntKind.u8 n26),Eng.V.c (Value.int IntKind.u8 n27),Eng.V.c (Value.int IntKind.u8 n28),Eng.V.c (Value.int IntKind.u8 n29),Eng.V.c (Value.int IntKind.u8 n30),Eng.V.c (Value.int IntKind.u8 n31),Eng.V.c (Value.int IntKind.u8 n32),Eng.V.c (Value.int IntKind.u8 n33),Eng.V.c (Value.int IntKind.u8 n34),Eng.V.c (Value.int IntKind.u8 n35),Eng.V.c (Value.int IntKind.u8 n36),Eng.V.c (Value.int IntKind.u8 n37),Eng.V.c (Value.int IntKind.u8 n38),Eng.V.c (Value.int IntKind.u8 n39),Eng.V.c (Value.int IntKind.u8 n40)])) fun v41 =>
 (Eng.asInt IntKind.u8 (Eng.getC v41 (0:Nat) (0:Nat)) False fun n42 =>
 (Eng.asInt IntKind.u8 (Eng.getC v41 (0:Nat) (1:Nat)) False fun n43 =>
 (Eng.asInt IntKind.u8 (Eng.getC v41 (0:Nat) (2:Nat)) False fun n44 =>
 (Eng.asInt IntKind.u8 (Eng.getC v41 (0:Nat) (3:Nat)) False fun n45 =>
 (Eng.asInt IntKind.u8 (Eng.getC v41 (0:Nat) (4:Nat)) False fun n46 =>
 (Eng.asInt IntKind.u8 (Eng.getC v41 (0:Nat) (5:Nat)) False fun n47 =>
 (Eng.asInt IntKind.u8 (Eng.getC v41 (0:Nat) (6:Nat)) False fun n48 =>
 (Eng.asInt IntKind.u8 (Eng.getC v41 (0:Nat) (7:Nat)) False fun n49 =>
 (Eng.asInt IntKind.u8 (Eng.getC v41 (0:Nat) (8:Nat)) False fun n50 =>
 (Eng.asInt IntKind.u8 (Eng.getC v41 (0:Nat) (9:Nat)) False fun n51 =>
 (Eng.asInt IntKind.u8 (Eng.getC v41 (0:Nat) (10:Nat)) False fun n52 =>
 (Eng.asInt IntKind.u8 (Eng.getC v41 (0:Nat) (11:Nat)) False fun n53 =>
 (Eng.asInt IntKind.u8 (Eng.getC v41 (0:Nat) (12:Nat)) False fun n54 =>
 (Eng.asInt IntKind.u8 (Eng.getC v41 (0:Nat) (13:Nat)) False fun n55 =>
 (Eng.asInt IntKind.u8 (Eng.getC v41 (0:Nat) (14:Nat)) False fun n56 =>
 (Eng.asInt IntKind.u8 (Eng.getC v41 (0:Nat) (15:Nat)) False fun n57 =>
 (Eng.asInt IntKind.u8 (Eng.getC v41 (0:Nat) (16:Nat)) False fun n58 =>
 (Eng.asInt IntKind.u8 (Eng.getC v41 (0:Nat) (17:Nat)) False fun n59 =>
 (Eng.asInt IntKind.u8 (Eng.getC v41 (0:Nat) (18:Nat)) False fun n60 =>
 (Eng.asInt IntKind.u8 (Eng.getC v41 (0:Nat) (19:Nat)) False fun n61 =>
 K (n42,n43,n44,n45,n46,n47,n48,n49,n50,n51,n52,n53,n54,n55,n56,n57,n58,n59,n60,n61,()))))))))))))))))))))))
 else
 False))))))))))))))))))))))
def Lq1j_2p:Lp:=⟨35184372088900,[.trim 35184372088900],pT95,pH96,0⟩
def Lq1j_1 (xq0f:Tq0f) (K:Q91→Prop) (k6:Q92→Prop):(Q93→Prop)→Q93→Prop:=fun k9 x10 =>
 (if decide ((↑(List.length x10.1.2.1):Int) > 0) then
 (if (0 :Int)≤64∧64≤(↑(List.length x10.1.2.1):Int) then
 xq0f (Eng.cutL x10.1.2.1 (0:Nat) (64:Nat)) x10.2.2.1.1 x10.2.2.1.2.1 x10.2.2.1.2.2.1 x10.2.2.1.2.2.2.1 x10.2.2.1.2.2.2.2.1 (fun r11 r12 r13 r14 r15 =>
 (if 0≤(↑(List.length x10.1.2.1):Int)∧(↑(List.length x10.1.2.1):Int)≤(↑(List.length x10.1.2.1):Int) then
 (if (0 :Int)≤64∧64≤(↑(List.length x10.1.2.1):Int) then
 k9 (((),Eng.cutL x10.1.2.1 (64:Nat) (Int.toNat (↑(List.length x10.1.2.1):Int) - (64:Nat)),(),()),x10.2.1,(r11,r12,r13,r14,r15,()),())
 else
 False)
 else
 False))
 else
 False)
 else
 lp (Lq1j_2 K k6 k9) (((),(),0,()),x10.2))
def Lq1j_1p:Lp:=⟨76,[.trim 76,.thin 208,.trim 76],pT97,pH96,0⟩
def Lq1j_0 (xq0f:Tq0f) (K:Q91→Prop):(Q92→Prop)→Q92→Prop:=fun k6 x7 =>
 (if decide (x7.1.2.2.2.1≥0) then
 (if w64 (8 * x7.1.2.2.2.1) < 0 then
 False
 else
 (lt (wu8 (Int.fdiv x7.1.2.2.1 (2 ^ Min.min (Int.toNat (w64 (8 * x7.1.2.2.2.1))) (64:Nat)))) fun v8 =>
 (if x7.2.2.1.2.1 then
 (if Eng.roomOk (List.length x7.2.2.1.1+List.length [Eng.V.c (Value.int IntKind.u8 v8)]) (1:Nat) then
 k6 (((),(),x7.1.2.2.1,w64 (x7.1.2.2.2.1 - 1),()),x7.2.1,(x7.2.2.1.1++[Eng.V.c (Value.int IntKind.u8 v8)],x7.2.2.1.2),())
 else
 False)
 else
 False)))
 else
 lp (Lq1j_1 xq0f K k6) (((),x7.2.2.1.1,(),()),x7.2.1,(1732584193,4023233417,2562383102,271733878,3285377520,()),()))
def Lq1j_0p:Lp:=⟨60,[.trim 60],pT98,pH99,0⟩
def Yq1j (xq05:Tq05) (xq0f:Tq0f) (a0:(List Eng.V)) (K:Q91→Prop):Prop :=
 xq05 a0 (fun r1 r2 r3 =>
 (if r2 then
 (if Eng.roomOk (List.length r1+(1:Nat)) (1:Nat) then
 (lt (w64 (184 - Int.tmod (↑(List.length (r1++[Eng.V.c (Value.int IntKind.u8 128)])):Int) 64)) fun v4 =>
 (if 0≤Int.tmod v4 64∧Int.tmod v4 (64 :Int)≤4398046511104 then
 (if r2 then
 (if Eng.roomOk (List.length (r1++[Eng.V.c (Value.int IntKind.u8 128)])+List.length (List.replicate (Int.toNat (Int.tmod v4 64)) (Eng.ofVal (Value.int IntKind.u8 0)))) (1:Nat) then
 (lt (r1++[Eng.V.c (Value.int IntKind.u8 128)]++List.replicate (Int.toNat (Int.tmod v4 64)) (Eng.ofVal (Value.int IntKind.u8 0))) fun v5 =>
 lp (Lq1j_0 xq0f K) (((),(),wu64 (wu64 (↑(List.length r1):Int) * 8),7,()),[Eng.V.agg [Eng.V.c (Value.int IntKind.u8 0),Eng.V.c (Value.int IntKind.u8 0),Eng.V.c (Value.int IntKind.u8 0),Eng.V.c (Value.int IntKind.u8 0),Eng.V.c (Value.int IntKind.u8 0),Eng.V.c (Value.int IntKind.u8 0),Eng.V.c (Value.int IntKind.u8 0),Eng.V.c (Value.int IntKind.u8 0),Eng.V.c (Value.int IntKind.u8 0),Eng.V.c (Value.int IntKind.u8 0),Eng.V.c (Value.int IntKind.u8 0),Eng.V.c (Value.int IntKind.u8 0),Eng.V.c (Value.int IntKind.u8 0),Eng.V.c (Value.int IntKind.u8 0),Eng.V.c (Value.int IntKind.u8 0),Eng.V.c (Value.int IntKind.u8 0),Eng.V.c (Value.int IntKind.u8 0),Eng.V.c (Value.int IntKind.u8 0),Eng.V.c (Value.int IntKind.u8 0),Eng.V.c (Value.int IntKind.u8 0)]],(v5,r2,r3),()))
 else
 False)
 else
 False)
 else
 False))
 else
 False)
 else
 False))
def Xq1j:Tq1j:=Yq1j Xq05 Xq0f
def Jq1j (X:Tq1j):Inst:=mkI 39 pL75 .nil pL100 .nil X
def Iq1j:Inst:=Jq1j Xq1j
theorem Eq1j (xq05:Tq05) (xq0f:Tq0f):EqF Tryd.prog 62 gives Tryd.f39 [Jq05 xq05,Jq0f xq0f] [Lq1j_0p,Lq1j_1p,Lq1j_2p] (Jq1j (Yq1j xq05 xq0f)):=fun x y K=>by kernel_rfl
theorem Iq1j_ok:InstOk Tryd.prog G.1 Iq1j:=iok (gives:=gives) [Lq1j_0p,Lq1j_1p,Lq1j_2p] (okCons Iq05_ok (okCons Iq0f_ok okNil)) 62 follows Tryd.func39 (by kernel_rfl) (fun x=>by kernel_rfl) (Eq1j Xq05 Xq0f)
abbrev Tq0q:Type:=(List Eng.V)→(Q91→Prop)→Prop
def Lq0q_1 (xjoin:Tjoin) (K:Q91→Prop) (k1:Q101→Prop):(Q102→Prop)→Q102→Prop:=fun k4 x5 =>
 (if decide (x5.1.2.2.2.2.2.2.2.2.2.1 < x5.1.2.2.2.2.2.2.2.2.1) then
 (if 0≤x5.1.2.2.2.2.2.2.2.2.2.1∧x5.1.2.2.2.2.2.2.2.2.2.1 < (↑(List.length x5.1.2.2.2.2.2.2.2.1):Int) then
 (Eng.asStr (Eng.getC x5.1.2.2.2.2.2.2.2.1 (Int.toNat x5.1.2.2.2.2.2.2.2.2.2.1) (0:Nat)) False fun t6 =>
 (Eng.asSl (1:Nat) (Eng.getC x5.1.2.2.2.2.2.2.2.1 (Int.toNat x5.1.2.2.2.2.2.2.2.2.2.1) (1:Nat)) False fun l7 l8 =>
 (Eng.asSl (1:Nat) (Eng.getC x5.1.2.2.2.2.2.2.2.1 (Int.toNat x5.1.2.2.2.2.2.2.2.2.2.1) (2:Nat)) False fun l9 l10 =>
 (Eng.asBool (Eng.getC x5.1.2.2.2.2.2.2.2.1 (Int.toNat x5.1.2.2.2.2.2.2.2.2.2.1) (3:Nat)) False fun b11 =>
 (if (ByteArray.toList t6 == ByteArray.toList x5.1.2.2.2.1) then
 xjoin l8 (ByteArray.mk #[]) (fun r12 =>
 (if Eng.roomOk (List.length x5.2.2.2.1+List.length [Eng.V.sl (1:Nat) false (Eng.bytesV r12)]) (24:Nat) then
 k4 ((x5.1.1,(),(),x5.1.2.2.2.1,(),x5.1.2.2.2.2.2.1,x5.1.2.2.2.2.2.2.1,x5.1.2.2.2.2.2.2.2.1,x5.1.2.2.2.2.2.2.2.2.1,w64 (x5.1.2.2.2.2.2.2.2.2.2.1+1),()),x5.2.1,x5.2.2.1,x5.2.2.2.1++[Eng.V.sl (1:Nat) false (Eng.bytesV r12)],())
 else
 False))
 else
 k4 ((x5.1.1,(),(),x5.1.2.2.2.1,(),x5.1.2.2.2.2.2.1,x5.1.2.2.2.2.2.2.1,x5.1.2.2.2.2.2.2.2.1,x5.1.2.2.2.2.2.2.2.2.1,w64 (x5.1.2.2.2.2.2.2.2.2.2.1+1),()),x5.2))))))
 else
 False)
 else
 k1 ((x5.1.1,(),(),(),x5.1.2.2.2.2.2.1,w64 (x5.1.2.2.2.2.2.2.1+1),()),x5.2))
def Lq0q_1p:Lp:=⟨116525,[.trim 116525],pT103,pH104,0⟩
def Lq0q_0 (xjoin:Tjoin) (xq1j:Tq1j) (K:Q91→Prop):(Q101→Prop)→Q101→Prop:=fun k1 x2 =>
 (if decide (x2.1.2.2.2.2.2.1 < x2.1.2.2.2.2.1) then
 (if 0≤x2.1.2.2.2.2.2.1∧x2.1.2.2.2.2.2.1 < (↑(List.length x2.2.2.1):Int) then
 (Eng.asStr (Eng.getC x2.2.2.1 (Int.toNat x2.1.2.2.2.2.2.1) (0:Nat)) False fun t3 =>
 lp (Lq0q_1 xjoin K k1) ((x2.1.1,(),(),t3,(),x2.1.2.2.2.2.1,x2.1.2.2.2.2.2.1,x2.1.1,(↑(List.length x2.1.1):Int),0,()),x2.2))
 else
 False)
 else
 xq1j x2.2.2.2.1 (fun r13 =>
 (if (0:Nat) < List.length x2.2.1 then
 (lt (List.set x2.2.1 (0:Nat) (Eng.setE (List.getD x2.2.1 (0:Nat) Eng.V.bad) (0:Nat) [Eng.V.c (Value.int IntKind.u8 r13.1),Eng.V.c (Value.int IntKind.u8 r13.2.1),Eng.V.c (Value.int IntKind.u8 r13.2.2.1),Eng.V.c (Value.int IntKind.u8 r13.2.2.2.1),Eng.V.c (Value.int IntKind.u8 r13.2.2.2.2.1),Eng.V.c (Value.int IntKind.u8 r13.2.2.2.2.2.1),Eng.V.c (Value.int IntKind.u8 r13.2.2.2.2.2.2.1),Eng.V.c (Value.int IntKind.u8 r13.2.2.2.2.2.2.2.1),Eng.V.c (Value.int IntKind.u8 r13.2.2.2.2.2.2.2.2.1),Eng.V.c (Value.int IntKind.u8 r13.2.2.2.2.2.2.2.2.2.1),Eng.V.c (Value.int IntKind.u8 r13.2.2.2.2.2.2.2.2.2.2.1),Eng.V.c (Value.int IntKind.u8 r13.2.2.2.2.2.2.2.2.2.2.2.1),Eng.V.c (Value.int IntKind.u8 r13.2.2.2.2.2.2.2.2.2.2.2.2.1),Eng.V.c (Value.int IntKind.u8 r13.2.2.2.2.2.2.2.2.2.2.2.2.2.1),Eng.V.c (Value.int IntKind.u8 r13.2.2.2.2.2.2.2.2.2.2.2.2.2.2.1),Eng.V.c (Value.int IntKind.u8 r13.2.2.2.2.2.2.2.2.2.2.2.2.2.2.2.1),Eng.V.c (Value.int IntKind.u8 r13.2.2.2.2.2.2.2.2.2.2.2.2.2.2.2.2.1),Eng.V.c (Value.int IntKind.u8 r13.2.2.2.2.2.2.2.2.2.2.2.2.2.2.2.2.2.1),Eng.V.c (Value.int IntKind.u8 r13.2.2.2.2.2.2.2.2.2.2.2.2.2.2.2.2.2.2.1),Eng.V.c (Value.int IntKind.u8 r13.2.2.2.2.2.2.2.2.2.2.2.2.2.2.2.2.2.2.2.1)])) fun v14 =>
 (Eng.asInt IntKind.u8 (Eng.getC v14 (0:Nat) (0:Nat)) False fun n15 =>
 (Eng.asInt IntKind.u8 (Eng.getC v14 (0:Nat) (1:Nat)) False fun n16 =>
 (Eng.asInt IntKind.u8 (Eng.getC v14 (0:Nat) (2:Nat)) False fun n17 =>
 (Eng.asInt IntKind.u8 (Eng.getC v14 (0:Nat) (3:Nat)) False fun n18 =>
 (Eng.asInt IntKind.u8 (Eng.getC v14 (0:Nat) (4:Nat)) False fun n19 =>
 (Eng.asInt IntKind.u8 (Eng.getC v14 (0:Nat) (5:Nat)) False fun n20 =>
 (Eng.asInt IntKind.u8 (Eng.getC v14 (0:Nat) (6:Nat)) False fun n21 =>
 (Eng.asInt IntKind.u8 (Eng.getC v14 (0:Nat) (7:Nat)) False fun n22 =>
 (Eng.asInt IntKind.u8 (Eng.getC v14 (0:Nat) (8:Nat)) False fun n23 =>
 (Eng.asInt IntKind.u8 (Eng.getC v14 (0:Nat) (9:Nat)) False fun n24 =>
 (Eng.asInt IntKind.u8 (Eng.getC v14 (0:Nat) (10:Nat)) False fun n25 =>
 (Eng.asInt IntKind.u8 (Eng.getC v14 (0:Nat) (11:Nat)) False fun n26 =>
 (Eng.asInt IntKind.u8 (Eng.getC v14 (0:Nat) (12:Nat)) False fun n27 =>
 (Eng.asInt IntKind.u8 (Eng.getC v14 (0:Nat) (13:Nat)) False fun n28 =>
 (Eng.asInt IntKind.u8 (Eng.getC v14 (0:Nat) (14:Nat)) False fun n29 =>
 (Eng.asInt IntKind.u8 (Eng.getC v14 (0:Nat) (15:Nat)) False fun n30 =>
 (Eng.asInt IntKind.u8 (Eng.getC v14 (0:Nat) (16:Nat)) False fun n31 =>
 (Eng.asInt IntKind.u8 (Eng.getC v14 (0:Nat) (17:Nat)) False fun n32 =>
 (Eng.asInt IntKind.u8 (Eng.getC v14 (0:Nat) (18:Nat)) False fun n33 =>
 (Eng.asInt IntKind.u8 (Eng.getC v14 (0:Nat) (19:Nat)) False fun n34 =>
 K (n15,n16,n17,n18,n19,n20,n21,n22,n23,n24,n25,n26,n27,n28,n29,n30,n31,n32,n33,n34,()))))))))))))))))))))))
 else
 False)))
def Lq0q_0p:Lp:=⟨1805,[.trim 1805,.fat 3 1 640,.trim 1805],pT105,pH104,0⟩
def Yq0q (xjoin:Tjoin) (xq1j:Tq1j) (a0:(List Eng.V)) (K:Q91→Prop):Prop :=
 lp (Lq0q_0 xjoin xq1j K) ((a0,(),(),(),3,0,()),[Eng.V.agg [Eng.V.c (Value.int IntKind.u8 0),Eng.V.c (Value.int IntKind.u8 0),Eng.V.c (Value.int IntKind.u8 0),Eng.V.c (Value.int IntKind.u8 0),Eng.V.c (Value.int IntKind.u8 0),Eng.V.c (Value.int IntKind.u8 0),Eng.V.c (Value.int IntKind.u8 0),Eng.V.c (Value.int IntKind.u8 0),Eng.V.c (Value.int IntKind.u8 0),Eng.V.c (Value.int IntKind.u8 0),Eng.V.c (Value.int IntKind.u8 0),Eng.V.c (Value.int IntKind.u8 0),Eng.V.c (Value.int IntKind.u8 0),Eng.V.c (Value.int IntKind.u8 0),Eng.V.c (Value.int IntKind.u8 0),Eng.V.c (Value.int IntKind.u8 0),Eng.V.c (Value.int IntKind.u8 0),Eng.V.c (Value.int IntKind.u8 0),Eng.V.c (Value.int IntKind.u8 0),Eng.V.c (Value.int IntKind.u8 0)]],[Eng.V.c (Value.string (ByteArray.mk #[(35:UInt8),(36:UInt8)])),Eng.V.c (Value.string (ByteArray.mk #[(35:UInt8),(64:UInt8)])),Eng.V.c (Value.string (ByteArray.mk #[]))],[],())
def Xq0q:Tq0q:=Yq0q Xjoin Xq1j
def Jq0q (X:Tq0q):Inst:=mkI 26 pL106 .nil pL100 .nil X
def Iq0q:Inst:=Jq0q Xq0q
theorem Eq0q (xjoin:Tjoin) (xq1j:Tq1j):EqF Tryd.prog 35 gives Tryd.f26 [Jjoin xjoin,Jq1j xq1j] [Lq0q_0p,Lq0q_1p] (Jq0q (Yq0q xjoin xq1j)):=fun x y K=>by kernel_rfl
theorem Iq0q_ok:InstOk Tryd.prog G.1 Iq0q:=iok (gives:=gives) [Lq0q_0p,Lq0q_1p] (okCons Ijoin_ok (okCons Iq1j_ok okNil)) 35 follows Tryd.func26 (by kernel_rfl) (fun x=>by kernel_rfl) (Eq0q Xjoin Xq1j)
abbrev Tq12:Type:=Q91→(Q37→Prop)→Prop
def Lq12_0 (K:Q37→Prop):(Q107→Prop)→Q107→Prop:=fun k1 x2 =>
 (if decide (x2.1.2.2.1 < 20) then
 (if 0≤x2.1.2.2.1∧x2.1.2.2.1 < 20 then
 (Eng.asInt IntKind.u8 ([Eng.V.c (Value.int IntKind.u8 x2.1.2.1.1),Eng.V.c (Value.int IntKind.u8 x2.1.2.1.2.1),Eng.V.c (Value.int IntKind.u8 x2.1.2.1.2.2.1),Eng.V.c (Value.int IntKind.u8 x2.1.2.1.2.2.2.1),Eng.V.c (Value.int IntKind.u8 x2.1.2.1.2.2.2.2.1),Eng.V.c (Value.int IntKind.u8 x2.1.2.1.2.2.2.2.2.1),Eng.V.c (Value.int IntKind.u8 x2.1.2.1.2.2.2.2.2.2.1),Eng.V.c (Value.int IntKind.u8 x2.1.2.1.2.2.2.2.2.2.2.1),Eng.V.c (Value.int IntKind.u8 x2.1.2.1.2.2.2.2.2.2.2.2.1),Eng.V.c (Value.int IntKind.u8 x2.1.2.1.2.2.2.2.2.2.2.2.2.1),Eng.V.c (Value.int IntKind.u8 x2.1.2.1.2.2.2.2.2.2.2.2.2.2.1),Eng.V.c (Value.int IntKind.u8 x2.1.2.1.2.2.2.2.2.2.2.2.2.2.2.1),Eng.V.c (Value.int IntKind.u8 x2.1.2.1.2.2.2.2.2.2.2.2.2.2.2.2.1),Eng.V.c (Value.int IntKind.u8 x2.1.2.1.2.2.2.2.2.2.2.2.2.2.2.2.2.1),Eng.V.c (Value.int IntKind.u8 x2.1.2.1.2.2.2.2.2.2.2.2.2.2.2.2.2.2.1),Eng.V.c (Value.int IntKind.u8 x2.1.2.1.2.2.2.2.2.2.2.2.2.2.2.2.2.2.2.1),Eng.V.c (Value.int IntKind.u8 x2.1.2.1.2.2.2.2.2.2.2.2.2.2.2.2.2.2.2.2.1),Eng.V.c (Value.int IntKind.u8 x2.1.2.1.2.2.2.2.2.2.2.2.2.2.2.2.2.2.2.2.2.1),Eng.V.c (Value.int IntKind.u8 x2.1.2.1.2.2.2.2.2.2.2.2.2.2.2.2.2.2.2.2.2.2.1),Eng.V.c (Value.int IntKind.u8 x2.1.2.1.2.2.2.2.2.2.2.2.2.2.2.2.2.2.2.2.2.2.2.1)][Int.toNat x2.1.2.2.1 * (1:Nat)]?) False fun n3 =>
 (if 0≤w64 (Int.tdiv x2.1.2.2.1 4)∧w64 (Int.tdiv x2.1.2.2.1 4) < 5 then
 (Eng.asInt IntKind.u32 (Eng.getC x2.2.1 (0:Nat) ((0:Nat)+Int.toNat (w64 (Int.tdiv x2.1.2.2.1 4)) * (1:Nat))) False fun n4 =>
 (lt (wu32 (↑(BitVec.toNat (BitVec.ofInt (32:Nat) (wu32 (n4 * 256)) ||| BitVec.ofInt (32:Nat) (wu32 n3))):Int)) fun v5 =>
 (if 0≤w64 (Int.tdiv x2.1.2.2.1 4)∧w64 (Int.tdiv x2.1.2.2.1 4) < 5 then
 (if (0:Nat) < List.length x2.2.1 then
 (if (0:Nat)+Int.toNat (w64 (Int.tdiv x2.1.2.2.1 4)) * (1:Nat)+List.length [Eng.V.c (Value.int IntKind.u32 v5)]≤(5:Nat) then
 (lt (List.set x2.2.1 (0:Nat) (Eng.setE (List.getD x2.2.1 (0:Nat) Eng.V.bad) ((0:Nat)+Int.toNat (w64 (Int.tdiv x2.1.2.2.1 4)) * (1:Nat)) [Eng.V.c (Value.int IntKind.u32 v5)])) fun v6 =>
 k1 (((),x2.1.2.1,w64 (x2.1.2.2.1+1),()),v6,()))
 else
 False)
 else
 False)
 else
 False)))
 else
 False))
 else
 False)
 else
 (Eng.asInt IntKind.u32 (Eng.getC x2.2.1 (0:Nat) (0:Nat)) False fun n7 =>
 (Eng.asInt IntKind.u32 (Eng.getC x2.2.1 (0:Nat) (1:Nat)) False fun n8 =>
 (Eng.asInt IntKind.u32 (Eng.getC x2.2.1 (0:Nat) (2:Nat)) False fun n9 =>
 (Eng.asInt IntKind.u32 (Eng.getC x2.2.1 (0:Nat) (3:Nat)) False fun n10 =>
 (Eng.asInt IntKind.u32 (Eng.getC x2.2.1 (0:Nat) (4:Nat)) False fun n11 =>
 (if (0:Nat) < List.length x2.2.1 then
 (lt (List.set x2.2.1 (0:Nat) (Eng.setE (List.getD x2.2.1 (0:Nat) Eng.V.bad) (0:Nat) [Eng.V.c (Value.int IntKind.u32 n7),Eng.V.c (Value.int IntKind.u32 n8),Eng.V.c (Value.int IntKind.u32 n9),Eng.V.c (Value.int IntKind.u32 n10),Eng.V.c (Value.int IntKind.u32 n11)])) fun v12 =>
 (Eng.asInt IntKind.u32 (Eng.getC v12 (0:Nat) (0:Nat)) False fun n13 =>
 (Eng.asInt IntKind.u32 (Eng.getC v12 (0:Nat) (1:Nat)) False fun n14 =>
 (Eng.asInt IntKind.u32 (Eng.getC v12 (0:Nat) (2:Nat)) False fun n15 =>
 (Eng.asInt IntKind.u32 (Eng.getC v12 (0:Nat) (3:Nat)) False fun n16 =>
 (Eng.asInt IntKind.u32 (Eng.getC v12 (0:Nat) (4:Nat)) False fun n17 =>
 K (n13,n14,n15,n16,n17,())))))))
 else
 False)))))))
def Lq12_0p:Lp:=⟨100,[.trim 100],pT108,pH109,0⟩
def Yq12 (a0:Q91) (K:Q37→Prop):Prop :=
 lp (Lq12_0 K) (((),a0,0,()),[Eng.V.agg [Eng.V.c (Value.int IntKind.u32 0),Eng.V.c (Value.int IntKind.u32 0),Eng.V.c (Value.int IntKind.u32 0),Eng.V.c (Value.int IntKind.u32 0),Eng.V.c (Value.int IntKind.u32 0)]],())
def Xq12:Tq12:=Yq12
def Jq12 (X:Tq12):Inst:=mkI 15 pL100 .nil pL110 .nil X
def Iq12:Inst:=Jq12 Xq12
theorem Eq12:EqF Tryd.prog 23 gives Tryd.f15 [] [Lq12_0p] (Jq12 (Yq12)):=fun x y K=>by kernel_rfl
theorem Iq12_ok:InstOk Tryd.prog G.1 Iq12:=iok (gives:=gives) [Lq12_0p] okNil 23 follows Tryd.func15 (by kernel_rfl) (fun x=>by kernel_rfl) (Eq12)
end Go.Proofs.YtcljiciefhabgaaDoor
end
section
set_option linter.unusedVariables false
set_option linter.unusedSimpArgs false
namespace Go.Proofs.YtcljiciefhabgaaDoor
open Go Go.Proofs.YtcljiciefhabgaaDoor.Eng
set_option maxRecDepth 100000
set_option maxHeartbeats 4000000
variable {G:Gs}
abbrev Tq0v:Type:=ByteArray→(Q58→Q67→(List Eng.V)→Bool→Bool→Prop)→Prop
def Lq0v_0 (xq0k:Tq0k) (xq0n:Tq0n) (xq0y:Tq0y) (xq0w:Tq0w) (xq0r:Tq0r) (xq1e:Tq1e) (xq0q:Tq0q) (xq12:Tq12) (K:Q58→Q67→(List Eng.V)→Bool→Bool→Prop):(Q111→Prop)→Q111→Prop:=fun k4 x5 =>
 (if decide (x5.1.2.2.2.2.2.2.2.2.1 < x5.1.2.2.2.2.2.2.2.1) then
 (if 0≤x5.1.2.2.2.2.2.2.2.2.1∧x5.1.2.2.2.2.2.2.2.2.1 < (↑(List.length x5.2.2.2.2.2.1.1):Int) then
 (Eng.asStr (Eng.getC x5.2.2.2.2.2.1.1 (Int.toNat x5.1.2.2.2.2.2.2.2.2.1) (0:Nat)) False fun t6 =>
 (Eng.asSl (1:Nat) (Eng.getC x5.2.2.2.2.2.1.1 (Int.toNat x5.1.2.2.2.2.2.2.2.2.1) (1:Nat)) False fun l7 l8 =>
 (Eng.asSl (1:Nat) (Eng.getC x5.2.2.2.2.2.1.1 (Int.toNat x5.1.2.2.2.2.2.2.2.2.1) (2:Nat)) False fun l9 l10 =>
 (Eng.asBool (Eng.getC x5.2.2.2.2.2.1.1 (Int.toNat x5.1.2.2.2.2.2.2.2.2.1) (3:Nat)) False fun b11 =>
 xq0k (w64 (x5.1.2.2.2.2.2.2.2.2.1+1)) (t6,l8,l10,b11,()) x5.2.2.2.1.1 x5.2.2.2.1.2.1 x5.2.2.2.1.2.2.1 x5.2.2.2.1.2.2.2.1 x5.2.2.2.1.2.2.2.2.1 x5.2.2.2.2.1 (fun r12 r13 r14 r15 r16 r17 r18 r19 r20 =>
 (if (r12 != 0) then
 xq0n (w64 (x5.1.2.2.2.2.2.2.2.2.1+1)) r12 (fun r21 r22 r23 r24 r25 =>
 K ((),r21.2) r22 r23 r24 r25)
 else
 k4 ((x5.1.1,(),(),((),()),(),(),(),x5.1.2.2.2.2.2.2.2.1,w64 (x5.1.2.2.2.2.2.2.2.2.1+1),()),x5.2.1,x5.2.2.1,(r17,r13,r14,r15,r16,(),()),r20,x5.2.2.2.2.2)))))))
 else
 False)
 else
 (if (!x5.2.2.2.1.2.2.2.2.1) then
 xq0n (w64 ((↑(List.length x5.2.2.2.2.2.1.1):Int)+1)) 2 (fun r26 r27 r28 r29 r30 =>
 K ((),r26.2) r27 r28 r29 r30)
 else
 (Eng.asMpI IntKind.i64 (Eng.mpGet (ByteArray.mk #[(35:UInt8),(64:UInt8)]) x5.2.2.2.2.1) False fun n31 n32 =>
 (if decide (n31 > 0) then
 (if 0≤w64 (n31 - 1)∧w64 (n31 - 1) < (↑(List.length x5.2.2.2.2.2.1.1):Int) then
 (Eng.asSl (1:Nat) (Eng.getC x5.2.2.2.2.2.1.1 (Int.toNat (w64 (n31 - 1))) (2:Nat)) False fun l33 l34 =>
 (if (0 :Int)≤0∧0 < (↑(List.length l34):Int) then
 (Eng.asInt IntKind.i64 (Eng.getC l34 (0:Nat) (0:Nat)) False fun n35 =>
 xq0y n35 (fun r36 r37 =>
 xq0w (x5.2.2.2.1.1,true,r36,()) (fun r38 =>
 (if (!r38) then
 xq0n n31 9 (fun r39 r40 r41 r42 r43 =>
 K ((),r39.2) r40 r41 r42 r43)
 else
 (Eng.asMpI IntKind.i64 (Eng.mpGet (ByteArray.mk #[(35:UInt8),(104:UInt8)]) x5.2.2.2.2.1) False fun n44 n45 =>
 (if decide (n44 > 0) then
 xq0r x5.1.1 (fun r46 r47 r48 =>
 (if 0≤w64 (n44 - 1)∧w64 (n44 - 1) < (↑(List.length r46):Int) then
 (Eng.asStr (Eng.getC r46 (Int.toNat (w64 (n44 - 1))) (0:Nat)) False fun t49 =>
 (if 0≤(↑(ByteArray.size t49):Int)∧(↑(ByteArray.size t49):Int)≤(↑(ByteArray.size t49):Int) then
 (if (0 :Int)≤2∧2≤(↑(ByteArray.size t49):Int) then
 xq1e (ByteArray.extract t49 (2:Nat) (Int.toNat (↑(ByteArray.size t49):Int))) (fun r50 r51 =>
 xq0q x5.2.2.2.2.2.1.1 (fun r52 =>
 xq12 r52 (fun r53 =>
 (lt (!(r50.1 == r53.1 && (r50.2.1 == r53.2.1 && (r50.2.2.1 == r53.2.2.1 && (r50.2.2.2.1 == r53.2.2.2.1 && (r50.2.2.2.2.1 == r53.2.2.2.2.1 && true)))))) fun v54 =>
 (if v54 then
 xq0n n44 3 (fun r55 r56 r57 r58 r59 =>
 K ((),r55.2) r56 r57 r58 r59)
 else
 K ((),true,r36,()) (0,0,()) x5.2.2.2.1.1 false true)))))
 else
 False)
 else
 False))
 else
 False))
 else
 K ((),true,r36,()) (0,0,()) x5.2.2.2.1.1 false true))))))
 else
 False))
 else
 False)
 else
 (Eng.asMpI IntKind.i64 (Eng.mpGet (ByteArray.mk #[(35:UInt8),(104:UInt8)]) x5.2.2.2.2.1) False fun n60 n61 =>
 (if decide (n60 > 0) then
 xq0r x5.1.1 (fun r62 r63 r64 =>
 (if 0≤w64 (n60 - 1)∧w64 (n60 - 1) < (↑(List.length r62):Int) then
 (Eng.asStr (Eng.getC r62 (Int.toNat (w64 (n60 - 1))) (0:Nat)) False fun t65 =>
 (if 0≤(↑(ByteArray.size t65):Int)∧(↑(ByteArray.size t65):Int)≤(↑(ByteArray.size t65):Int) then
 (if (0 :Int)≤2∧2≤(↑(ByteArray.size t65):Int) then
 xq1e (ByteArray.extract t65 (2:Nat) (Int.toNat (↑(ByteArray.size t65):Int))) (fun r66 r67 =>
 xq0q x5.2.2.2.2.2.1.1 (fun r68 =>
 xq12 r68 (fun r69 =>
 (lt (!(r66.1 == r69.1 && (r66.2.1 == r69.2.1 && (r66.2.2.1 == r69.2.2.1 && (r66.2.2.2.1 == r69.2.2.2.1 && (r66.2.2.2.2.1 == r69.2.2.2.2.1 && true)))))) fun v70 =>
 (if v70 then
 xq0n n60 3 (fun r71 r72 r73 r74 r75 =>
 K ((),r71.2) r72 r73 r74 r75)
 else
 K ((),x5.2.2.2.1.2.1,x5.2.2.2.1.2.2.1,()) (0,0,()) x5.2.2.2.1.1 false true)))))
 else
 False)
 else
 False))
 else
 False))
 else
 K ((),x5.2.2.2.1.2.1,x5.2.2.2.1.2.2.1,()) (0,0,()) x5.2.2.2.1.1 false true))))))
def Lq0v_0p:Lp:=⟨1835133,[.trim 1835133,.thin 512,.trim 1835133,.ren 513 288],pT112,pH113,0⟩
def Yq0v (xq11:Tq11) (xq0k:Tq0k) (xq0n:Tq0n) (xq0y:Tq0y) (xq0w:Tq0w) (xq0r:Tq0r) (xq1e:Tq1e) (xq0q:Tq0q) (xq12:Tq12) (a0:ByteArray) (K:Q58→Q67→(List Eng.V)→Bool→Bool→Prop):Prop :=
 xq11 a0 (fun r1 r2 r3 =>
 lp (Lq0v_0 xq0k xq0n xq0y xq0w xq0r xq1e xq0q xq12 K) ((a0,(),(),((),()),(),(),(),(↑(List.length r1):Int),0,()),([],false,0,()),(0,0,()),([],false,0,0,false,(),()),[],(r1,r2,r3),()))
def Xq0v:Tq0v:=Yq0v Xq11 Xq0k Xq0n Xq0y Xq0w Xq0r Xq1e Xq0q Xq12
def Jq0v (X:Tq0v):Inst:=mkI 10 pL0 .nil pL68 pH49 X
def Iq0v:Inst:=Jq0v Xq0v
theorem Eq0v (xq11:Tq11) (xq0k:Tq0k) (xq0n:Tq0n) (xq0y:Tq0y) (xq0w:Tq0w) (xq0r:Tq0r) (xq1e:Tq1e) (xq0q:Tq0q) (xq12:Tq12):EqF Tryd.prog 108 gives Tryd.f10 [Jq11 xq11,Jq0k xq0k,Jq0n xq0n,Jq0y xq0y,Jq0w xq0w,Jq0r xq0r,Jq1e xq1e,Jq0q xq0q,Jq12 xq12] [Lq0v_0p] (Jq0v (Yq0v xq11 xq0k xq0n xq0y xq0w xq0r xq1e xq0q xq12)):=fun x y K=>by kernel_rfl
theorem Iq0v_ok:InstOk Tryd.prog G.1 Iq0v:=iok (gives:=gives) [Lq0v_0p] (okCons Iq11_ok (okCons Iq0k_ok (okCons Iq0n_ok (okCons Iq0y_ok (okCons Iq0w_ok (okCons Iq0r_ok (okCons Iq1e_ok (okCons Iq0q_ok (okCons Iq12_ok okNil))))))))) 108 follows Tryd.func10 (by kernel_rfl) (fun x=>by kernel_rfl) (Eq0v Xq11 Xq0k Xq0n Xq0y Xq0w Xq0r Xq1e Xq0q Xq12)
abbrev Tq1g:Type:=Int→(Int→Bool→Prop)→Prop
def Yq1g (xq1i:Tq1i) (a0:Int) (K:Int→Bool→Prop):Prop :=
 xq1i a0 2208988800 (fun r1 r2 =>
 (if (!r2) then
 K 0 false
 else
 (if decide (r1 < 0) then
 K 0 false
 else
 K r1 true)))
def Xq1g:Tq1g:=Yq1g Xq1i
def Jq1g (X:Tq1g):Inst:=mkI 19 pL2 .nil pL21 .nil X
def Iq1g:Inst:=Jq1g Xq1g
theorem Eq1g (xq1i:Tq1i):EqF Tryd.prog 18 gives Tryd.f19 [Jq1i xq1i] [] (Jq1g (Yq1g xq1i)):=fun x y K=>by kernel_rfl
theorem Iq1g_ok:InstOk Tryd.prog G.1 Iq1g:=iok (gives:=gives) [] (okCons Iq1i_ok okNil) 18 follows Tryd.func19 (by kernel_rfl) (fun x=>by kernel_rfl) (Eq1g Xq1i)
abbrev Tq13:Type:=Int→Int→(ByteArray→Prop)→Prop
def Yq13 (xq1g:Tq1g) (xitoa:Titoa) (a0:Int) (a1:Int) (K:ByteArray→Prop):Prop :=
 xq1g a0 (fun r2 r3 =>
 xitoa r2 (fun r4 =>
 (if (↑(ByteArray.size r4+(1:Nat)):Int) > 9223372036854775807 then
 False
 else
 xitoa a1 (fun r5 =>
 (if (↑(ByteArray.size (r4++ByteArray.mk #[(9:UInt8)])+ByteArray.size r5):Int) > 9223372036854775807 then
 False
 else
 (lt (r4++ByteArray.mk #[(9:UInt8)]++r5) fun v6 =>
 (if (↑(ByteArray.size v6+(1:Nat)):Int) > 9223372036854775807 then
 False
 else
 K (v6++ByteArray.mk #[(10:UInt8)]))))))))
def Xq13:Tq13:=Yq13 Xq1g Xitoa
def Jq13 (X:Tq13):Inst:=mkI 20 pL20 .nil pL0 .nil X
def Iq13:Inst:=Jq13 Xq13
theorem Eq13 (xq1g:Tq1g) (xitoa:Titoa):EqF Tryd.prog 19 gives Tryd.f20 [Jq1g xq1g,Jitoa xitoa] [] (Jq13 (Yq13 xq1g xitoa)):=fun x y K=>by kernel_rfl
theorem Iq13_ok:InstOk Tryd.prog G.1 Iq13:=iok (gives:=gives) [] (okCons Iq1g_ok (okCons Iitoa_ok okNil)) 19 follows Tryd.func20 (by kernel_rfl) (fun x=>by kernel_rfl) (Eq13 Xq1g Xitoa)
abbrev Tq15:Type:=ByteArray→(Q91→Prop)→Prop
def Yq15 (xq11:Tq11) (xq0q:Tq0q) (a0:ByteArray) (K:Q91→Prop):Prop :=
 xq11 a0 (fun r1 r2 r3 =>
 xq0q r1 (fun r4 =>
 K r4))
def Xq15:Tq15:=Yq15 Xq11 Xq0q
def Jq15 (X:Tq15):Inst:=mkI 14 pL0 .nil pL100 .nil X
def Iq15:Inst:=Jq15 Xq15
theorem Eq15 (xq11:Tq11) (xq0q:Tq0q):EqF Tryd.prog 6 gives Tryd.f14 [Jq11 xq11,Jq0q xq0q] [] (Jq15 (Yq15 xq11 xq0q)):=fun x y K=>by kernel_rfl
theorem Iq15_ok:InstOk Tryd.prog G.1 Iq15:=iok (gives:=gives) [] (okCons Iq11_ok (okCons Iq0q_ok okNil)) 6 follows Tryd.func14 (by kernel_rfl) (fun x=>by kernel_rfl) (Eq15 Xq11 Xq0q)
abbrev Tq1k:Type:=Q91→(ByteArray→Prop)→Prop
def Lq1k_0 (K:ByteArray→Prop):(Q114→Prop)→Q114→Prop:=fun k1 x2 =>
 (if decide (x2.1.2.2.2.1 < 20) then
 (if 0≤x2.1.2.2.2.1∧x2.1.2.2.2.1 < 20 then
 (Eng.asInt IntKind.u8 ([Eng.V.c (Value.int IntKind.u8 x2.1.2.2.1.1),Eng.V.c (Value.int IntKind.u8 x2.1.2.2.1.2.1),Eng.V.c (Value.int IntKind.u8 x2.1.2.2.1.2.2.1),Eng.V.c (Value.int IntKind.u8 x2.1.2.2.1.2.2.2.1),Eng.V.c (Value.int IntKind.u8 x2.1.2.2.1.2.2.2.2.1),Eng.V.c (Value.int IntKind.u8 x2.1.2.2.1.2.2.2.2.2.1),Eng.V.c (Value.int IntKind.u8 x2.1.2.2.1.2.2.2.2.2.2.1),Eng.V.c (Value.int IntKind.u8 x2.1.2.2.1.2.2.2.2.2.2.2.1),Eng.V.c (Value.int IntKind.u8 x2.1.2.2.1.2.2.2.2.2.2.2.2.1),Eng.V.c (Value.int IntKind.u8 x2.1.2.2.1.2.2.2.2.2.2.2.2.2.1),Eng.V.c (Value.int IntKind.u8 x2.1.2.2.1.2.2.2.2.2.2.2.2.2.2.1),Eng.V.c (Value.int IntKind.u8 x2.1.2.2.1.2.2.2.2.2.2.2.2.2.2.2.1),Eng.V.c (Value.int IntKind.u8 x2.1.2.2.1.2.2.2.2.2.2.2.2.2.2.2.2.1),Eng.V.c (Value.int IntKind.u8 x2.1.2.2.1.2.2.2.2.2.2.2.2.2.2.2.2.2.1),Eng.V.c (Value.int IntKind.u8 x2.1.2.2.1.2.2.2.2.2.2.2.2.2.2.2.2.2.2.1),Eng.V.c (Value.int IntKind.u8 x2.1.2.2.1.2.2.2.2.2.2.2.2.2.2.2.2.2.2.2.1),Eng.V.c (Value.int IntKind.u8 x2.1.2.2.1.2.2.2.2.2.2.2.2.2.2.2.2.2.2.2.2.1),Eng.V.c (Value.int IntKind.u8 x2.1.2.2.1.2.2.2.2.2.2.2.2.2.2.2.2.2.2.2.2.2.1),Eng.V.c (Value.int IntKind.u8 x2.1.2.2.1.2.2.2.2.2.2.2.2.2.2.2.2.2.2.2.2.2.2.1),Eng.V.c (Value.int IntKind.u8 x2.1.2.2.1.2.2.2.2.2.2.2.2.2.2.2.2.2.2.2.2.2.2.2.1)][Int.toNat x2.1.2.2.2.1 * (1:Nat)]?) False fun n3 =>
 (if 0≤Int.fdiv n3 16∧Int.fdiv n3 (16 :Int) < 16 then
 (lt (Eng.bAt (ByteArray.mk #[(48:UInt8),(49:UInt8),(50:UInt8),(51:UInt8),(52:UInt8),(53:UInt8),(54:UInt8),(55:UInt8),(56:UInt8),(57:UInt8),(97:UInt8),(98:UInt8),(99:UInt8),(100:UInt8),(101:UInt8),(102:UInt8)]) (Int.toNat (Int.fdiv n3 16))) fun v4 =>
 (if 0≤wu8 (↑(BitVec.toNat (BitVec.ofInt (8:Nat) n3 &&& BitVec.ofInt (8:Nat) 15)):Int)∧wu8 (↑(BitVec.toNat (BitVec.ofInt (8:Nat) n3 &&& BitVec.ofInt (8:Nat) 15)):Int) < 16 then
 (lt (Eng.bAt (ByteArray.mk #[(48:UInt8),(49:UInt8),(50:UInt8),(51:UInt8),(52:UInt8),(53:UInt8),(54:UInt8),(55:UInt8),(56:UInt8),(57:UInt8),(97:UInt8),(98:UInt8),(99:UInt8),(100:UInt8),(101:UInt8),(102:UInt8)]) (Int.toNat (wu8 (↑(BitVec.toNat (BitVec.ofInt (8:Nat) n3 &&& BitVec.ofInt (8:Nat) 15)):Int)))) fun v5 =>
 (if Eng.roomOk (List.length x2.2.1+List.length [Eng.V.c (Value.int IntKind.u8 v4),Eng.V.c (Value.int IntKind.u8 v5)]) (1:Nat) then
 k1 ((x2.1.1,(),x2.1.2.2.1,w64 (x2.1.2.2.2.1+1),()),x2.2.1++[Eng.V.c (Value.int IntKind.u8 v4),Eng.V.c (Value.int IntKind.u8 v5)],())
 else
 False))
 else
 False))
 else
 False))
 else
 False)
 else
 (if Eng.allU8 x2.2.1 then
 K (Eng.packB x2.2.1)
 else
 False))
def Lq1k_0p:Lp:=⟨204,[.trim 204,.fat 3 1 416,.trim 204],pT115,pH116,0⟩
def Yq1k (a0:Q91) (K:ByteArray→Prop):Prop :=
 lp (Lq1k_0 K) ((ByteArray.mk #[],(),a0,0,()),[],())
def Xq1k:Tq1k:=Yq1k
def Jq1k (X:Tq1k):Inst:=mkI 30 pL100 .nil pL0 .nil X
def Iq1k:Inst:=Jq1k Xq1k
theorem Eq1k:EqF Tryd.prog 22 gives Tryd.f30 [] [Lq1k_0p] (Jq1k (Yq1k)):=fun x y K=>by kernel_rfl
theorem Iq1k_ok:InstOk Tryd.prog G.1 Iq1k:=iok (gives:=gives) [Lq1k_0p] okNil 22 follows Tryd.func30 (by kernel_rfl) (fun x=>by kernel_rfl) (Eq1k)
abbrev Tq19:Type:=Q37→(ByteArray→Prop)→Prop
def Lq19_1 (xjoin:Tjoin) (K:ByteArray→Prop) (k1:Q117→Prop):(Q118→Prop)→Q118→Prop:=fun k27 x28 =>
 (if decide (x28.1.2.2.2.2.1 < x28.1.2.2.2.1) then
 (lt (w64 (w64 (8 * x28.1.2.2.2.2.1)+8)) fun v29 =>
 (if 0≤v29∧v29≤(↑(ByteArray.size x28.1.2.1):Int) then
 (if 0≤w64 (8 * x28.1.2.2.2.2.1)∧w64 (8 * x28.1.2.2.2.2.1)≤v29 then
 (lt (ByteArray.extract x28.1.2.1 (Int.toNat (w64 (8 * x28.1.2.2.2.2.1))) (Int.toNat v29)) fun v30 =>
 (if 0≤x28.1.2.2.2.2.1∧x28.1.2.2.2.2.1 < (↑(List.length x28.2.1):Int) then
 (if Int.toNat x28.1.2.2.2.2.1 < List.length x28.2.1 then
 k27 ((x28.1.1,x28.1.2.1,(),x28.1.2.2.2.1,w64 (x28.1.2.2.2.2.1+1),()),List.set x28.2.1 (Int.toNat x28.1.2.2.2.2.1) (Eng.setE (List.getD x28.2.1 (Int.toNat x28.1.2.2.2.2.1) Eng.V.bad) (0:Nat) [Eng.V.c (Value.string v30)]),())
 else
 False)
 else
 False))
 else
 False)
 else
 False))
 else
 xjoin x28.2.1 (ByteArray.mk #[(32:UInt8)]) (fun r31 =>
 K r31))
def Lq19_1p:Lp:=⟨805306468,[.trim 805306468],pT119,pH120,0⟩
def Lq19_0 (xq1k:Tq1k) (xjoin:Tjoin) (K:ByteArray→Prop):(Q117→Prop)→Q117→Prop:=fun k1 x2 =>
 (if decide (x2.1.2.2.2.1 < 20) then
 (if 0≤w64 (Int.tdiv x2.1.2.2.2.1 4)∧w64 (Int.tdiv x2.1.2.2.2.1 4) < 5 then
 (Eng.asInt IntKind.u32 ([Eng.V.c (Value.int IntKind.u32 x2.2.1.1),Eng.V.c (Value.int IntKind.u32 x2.2.1.2.1),Eng.V.c (Value.int IntKind.u32 x2.2.1.2.2.1),Eng.V.c (Value.int IntKind.u32 x2.2.1.2.2.2.1),Eng.V.c (Value.int IntKind.u32 x2.2.1.2.2.2.2.1)][(0:Nat)+Int.toNat (w64 (Int.tdiv x2.1.2.2.2.1 4)) * (1:Nat)]?) False fun n3 =>
 (lt (w64 (24 - w64 (Int.tmod x2.1.2.2.2.1 (4 :Int) * 8))) fun v4 =>
 (if v4 < 0 then
 False
 else
 (if 0≤x2.1.2.2.2.1∧x2.1.2.2.2.1 < 20 then
 (if (0:Nat) < List.length x2.2.2.1 then
 (if (0:Nat)+Int.toNat x2.1.2.2.2.1 * (1:Nat)+List.length [Eng.V.c (Value.int IntKind.u8 (wu8 (Int.fdiv n3 (2 ^ Min.min (Int.toNat v4) (32:Nat)))))]≤(20:Nat) then
 (lt (List.set x2.2.2.1 (0:Nat) (Eng.setE (List.getD x2.2.2.1 (0:Nat) Eng.V.bad) ((0:Nat)+Int.toNat x2.1.2.2.2.1 * (1:Nat)) [Eng.V.c (Value.int IntKind.u8 (wu8 (Int.fdiv n3 (2 ^ Min.min (Int.toNat v4) (32:Nat)))))])) fun v5 =>
 k1 (((),x2.1.2.1,(),w64 (x2.1.2.2.2.1+1),()),x2.2.1,v5,()))
 else
 False)
 else
 False)
 else
 False))))
 else
 False)
 else
 (Eng.asInt IntKind.u8 (Eng.getC x2.2.2.1 (0:Nat) (0:Nat)) False fun n6 =>
 (Eng.asInt IntKind.u8 (Eng.getC x2.2.2.1 (0:Nat) (1:Nat)) False fun n7 =>
 (Eng.asInt IntKind.u8 (Eng.getC x2.2.2.1 (0:Nat) (2:Nat)) False fun n8 =>
 (Eng.asInt IntKind.u8 (Eng.getC x2.2.2.1 (0:Nat) (3:Nat)) False fun n9 =>
 (Eng.asInt IntKind.u8 (Eng.getC x2.2.2.1 (0:Nat) (4:Nat)) False fun n10 =>
 (Eng.asInt IntKind.u8 (Eng.getC x2.2.2.1 (0:Nat) (5:Nat)) False fun n11 =>
 (Eng.asInt IntKind.u8 (Eng.getC x2.2.2.1 (0:Nat) (6:Nat)) False fun n12 =>
 (Eng.asInt IntKind.u8 (Eng.getC x2.2.2.1 (0:Nat) (7:Nat)) False fun n13 =>
 (Eng.asInt IntKind.u8 (Eng.getC x2.2.2.1 (0:Nat) (8:Nat)) False fun n14 =>
 (Eng.asInt IntKind.u8 (Eng.getC x2.2.2.1 (0:Nat) (9:Nat)) False fun n15 =>
 (Eng.asInt IntKind.u8 (Eng.getC x2.2.2.1 (0:Nat) (10:Nat)) False fun n16 =>
 (Eng.asInt IntKind.u8 (Eng.getC x2.2.2.1 (0:Nat) (11:Nat)) False fun n17 =>
 (Eng.asInt IntKind.u8 (Eng.getC x2.2.2.1 (0:Nat) (12:Nat)) False fun n18 =>
 (Eng.asInt IntKind.u8 (Eng.getC x2.2.2.1 (0:Nat) (13:Nat)) False fun n19 =>
 (Eng.asInt IntKind.u8 (Eng.getC x2.2.2.1 (0:Nat) (14:Nat)) False fun n20 =>
 (Eng.asInt IntKind.u8 (Eng.getC x2.2.2.1 (0:Nat) (15:Nat)) False fun n21 =>
 (Eng.asInt IntKind.u8 (Eng.getC x2.2.2.1 (0:Nat) (16:Nat)) False fun n22 =>
 (Eng.asInt IntKind.u8 (Eng.getC x2.2.2.1 (0:Nat) (17:Nat)) False fun n23 =>
 (Eng.asInt IntKind.u8 (Eng.getC x2.2.2.1 (0:Nat) (18:Nat)) False fun n24 =>
 (Eng.asInt IntKind.u8 (Eng.getC x2.2.2.1 (0:Nat) (19:Nat)) False fun n25 =>
 xq1k (n6,n7,n8,n9,n10,n11,n12,n13,n14,n15,n16,n17,n18,n19,n20,n21,n22,n23,n24,n25,()) (fun r26 =>
 lp (Lq19_1 xjoin K k1) ((x2.1.2.1,r26,(),5,0,()),[Eng.V.c (Value.string (ByteArray.mk #[])),Eng.V.c (Value.string (ByteArray.mk #[])),Eng.V.c (Value.string (ByteArray.mk #[])),Eng.V.c (Value.string (ByteArray.mk #[])),Eng.V.c (Value.string (ByteArray.mk #[]))],())))))))))))))))))))))))
def Lq19_0p:Lp:=⟨270,[.trim 270],pT121,pH122,0⟩
def Yq19 (xq1k:Tq1k) (xjoin:Tjoin) (a0:Q37) (K:ByteArray→Prop):Prop :=
 lp (Lq19_0 xq1k xjoin K) (((),ByteArray.mk #[],(),0,()),a0,[Eng.V.agg [Eng.V.c (Value.int IntKind.u8 0),Eng.V.c (Value.int IntKind.u8 0),Eng.V.c (Value.int IntKind.u8 0),Eng.V.c (Value.int IntKind.u8 0),Eng.V.c (Value.int IntKind.u8 0),Eng.V.c (Value.int IntKind.u8 0),Eng.V.c (Value.int IntKind.u8 0),Eng.V.c (Value.int IntKind.u8 0),Eng.V.c (Value.int IntKind.u8 0),Eng.V.c (Value.int IntKind.u8 0),Eng.V.c (Value.int IntKind.u8 0),Eng.V.c (Value.int IntKind.u8 0),Eng.V.c (Value.int IntKind.u8 0),Eng.V.c (Value.int IntKind.u8 0),Eng.V.c (Value.int IntKind.u8 0),Eng.V.c (Value.int IntKind.u8 0),Eng.V.c (Value.int IntKind.u8 0),Eng.V.c (Value.int IntKind.u8 0),Eng.V.c (Value.int IntKind.u8 0),Eng.V.c (Value.int IntKind.u8 0)]],())
def Xq19:Tq19:=Yq19 Xq1k Xjoin
def Jq19 (X:Tq19):Inst:=mkI 16 pL110 .nil pL0 .nil X
def Iq19:Inst:=Jq19 Xq19
theorem Eq19 (xq1k:Tq1k) (xjoin:Tjoin):EqF Tryd.prog 45 gives Tryd.f16 [Jq1k xq1k,Jjoin xjoin] [Lq19_0p,Lq19_1p] (Jq19 (Yq19 xq1k xjoin)):=fun x y K=>by kernel_rfl
theorem Iq19_ok:InstOk Tryd.prog G.1 Iq19:=iok (gives:=gives) [Lq19_0p,Lq19_1p] (okCons Iq1k_ok (okCons Ijoin_ok okNil)) 45 follows Tryd.func16 (by kernel_rfl) (fun x=>by kernel_rfl) (Eq19 Xq1k Xjoin)
abbrev Tq0z:Type:=Q53→Int→(ByteArray→Bool→Prop)→Prop
def Lq0z_0 (xq13:Tq13) (xq15:Tq15) (xq12:Tq12) (xq19:Tq19) (K:ByteArray→Bool→Prop):(Q123→Prop)→Q123→Prop:=fun k11 x12 =>
 (if decide (x12.1.2.2.2.2.2.2.1 < x12.1.2.2.2.2.2.1) then
 (if 0≤x12.1.2.2.2.2.2.2.1∧x12.1.2.2.2.2.2.2.1 < (↑(List.length x12.1.2.2.2.2.1):Int) then
 (Eng.asInt IntKind.i64 (Eng.getC x12.1.2.2.2.2.1 (Int.toNat x12.1.2.2.2.2.2.2.1) (0:Nat)) False fun n13 =>
 (Eng.asInt IntKind.i64 (Eng.getC x12.1.2.2.2.2.1 (Int.toNat x12.1.2.2.2.2.2.2.1) (1:Nat)) False fun n14 =>
 (Eng.asBool (Eng.getC x12.1.2.2.2.2.1 (Int.toNat x12.1.2.2.2.2.2.2.1) (2:Nat)) False fun b15 =>
 (if b15 then
 K (ByteArray.mk #[]) false
 else
 (if decide (w64 (x12.1.2.2.2.1+n14) < 0) then
 K (ByteArray.mk #[]) false
 else
 (lt (w64 (w64 (n13+1) * 86400)) fun v16 =>
 xq13 v16 (w64 (x12.1.2.2.2.1+n14)) (fun r17 =>
 (if (↑(ByteArray.size x12.1.2.2.1+ByteArray.size r17):Int) > 9223372036854775807 then
 False
 else
 k11 ((x12.1.1,x12.1.2.1,x12.1.2.2.1++r17,w64 (x12.1.2.2.2.1+n14),x12.1.2.2.2.2.1,x12.1.2.2.2.2.2.1,w64 (x12.1.2.2.2.2.2.2.1+1),()),())))))))))
 else
 False)
 else
 (if (↑(ByteArray.size x12.1.2.2.1+(2:Nat)):Int) > 9223372036854775807 then
 False
 else
 (lt (x12.1.2.2.1++ByteArray.mk #[(35:UInt8),(104:UInt8)]) fun v18 =>
 (if (↑(ByteArray.size v18+(1:Nat)):Int) > 9223372036854775807 then
 False
 else
 xq15 x12.1.2.2.1 (fun r19 =>
 xq12 r19 (fun r20 =>
 xq19 r20 (fun r21 =>
 (if (↑(ByteArray.size (v18++ByteArray.mk #[(9:UInt8)])+ByteArray.size r21):Int) > 9223372036854775807 then
 False
 else
 (lt (v18++ByteArray.mk #[(9:UInt8)]++r21) fun v22 =>
 (if (↑(ByteArray.size v22+(1:Nat)):Int) > 9223372036854775807 then
 False
 else
 K (v22++ByteArray.mk #[(10:UInt8)]) true))))))))))
def Lq0z_0p:Lp:=⟨30786325578352,[.trim 30786325578352],pT124,.nil,0⟩
def Yq0z (xq0w:Tq0w) (xitoa:Titoa) (xq1g:Tq1g) (xq13:Tq13) (xq15:Tq15) (xq12:Tq12) (xq19:Tq19) (a0:Q53) (a1:Int) (K:ByteArray→Bool→Prop):Prop :=
 xq0w a0 (fun r2 =>
 (if (!r2) then
 K (ByteArray.mk #[]) false
 else
 (if decide (a1 < 0) then
 K (ByteArray.mk #[]) false
 else
 xitoa a1 (fun r3 =>
 (if (↑((3:Nat)+ByteArray.size r3):Int) > 9223372036854775807 then
 False
 else
 (lt (ByteArray.mk #[(35:UInt8),(36:UInt8),(9:UInt8)]++r3) fun v4 =>
 (if (↑(ByteArray.size v4+(1:Nat)):Int) > 9223372036854775807 then
 False
 else
 (if a0.2.1 then
 xq1g a0.2.2.1 (fun r5 r6 =>
 xitoa r5 (fun r7 =>
 (if (↑((3:Nat)+ByteArray.size r7):Int) > 9223372036854775807 then
 False
 else
 (lt (ByteArray.mk #[(35:UInt8),(64:UInt8),(9:UInt8)]++r7) fun v8 =>
 (if (↑(ByteArray.size v8+(1:Nat)):Int) > 9223372036854775807 then
 False
 else
 (if (↑(ByteArray.size (v4++ByteArray.mk #[(10:UInt8)])+ByteArray.size (v8++ByteArray.mk #[(10:UInt8)])):Int) > 9223372036854775807 then
 False
 else
 (lt (v4++ByteArray.mk #[(10:UInt8)]++(v8++ByteArray.mk #[(10:UInt8)])) fun v9 =>
 xq13 63072000 10 (fun r10 =>
 (if (↑(ByteArray.size v9+ByteArray.size r10):Int) > 9223372036854775807 then
 False
 else
 lp (Lq0z_0 xq13 xq15 xq12 xq19 K) ((ByteArray.mk #[],false,v9++r10,10,a0.1,(↑(List.length a0.1):Int),0,()),()))))))))))
 else
 xq13 63072000 10 (fun r23 =>
 (if (↑(ByteArray.size (v4++ByteArray.mk #[(10:UInt8)])+ByteArray.size r23):Int) > 9223372036854775807 then
 False
 else
 (lt (v4++ByteArray.mk #[(10:UInt8)]++r23) fun v24 =>
 lp (Lq0z_0 xq13 xq15 xq12 xq19 K) ((ByteArray.mk #[],false,v24,10,a0.1,(↑(List.length a0.1):Int),0,()),()))))))))))))
def Xq0z:Tq0z:=Yq0z Xq0w Xitoa Xq1g Xq13 Xq15 Xq12 Xq19
def Jq0z (X:Tq0z):Inst:=mkI 9 pL125 .nil pL126 .nil X
def Iq0z:Inst:=Jq0z Xq0z
theorem Eq0z (xq0w:Tq0w) (xitoa:Titoa) (xq1g:Tq1g) (xq13:Tq13) (xq15:Tq15) (xq12:Tq12) (xq19:Tq19):EqF Tryd.prog 76 gives Tryd.f9 [Jq0w xq0w,Jitoa xitoa,Jq1g xq1g,Jq13 xq13,Jq15 xq15,Jq12 xq12,Jq19 xq19] [Lq0z_0p] (Jq0z (Yq0z xq0w xitoa xq1g xq13 xq15 xq12 xq19)):=fun x y K=>by kernel_rfl
theorem Iq0z_ok:InstOk Tryd.prog G.1 Iq0z:=iok (gives:=gives) [Lq0z_0p] (okCons Iq0w_ok (okCons Iitoa_ok (okCons Iq1g_ok (okCons Iq13_ok (okCons Iq15_ok (okCons Iq12_ok (okCons Iq19_ok okNil))))))) 76 follows Tryd.func9 (by kernel_rfl) (fun x=>by kernel_rfl) (Eq0z Xq0w Xitoa Xq1g Xq13 Xq15 Xq12 Xq19)
abbrev Tq0g:Type:=Q53→Q53→(Bool→Prop)→Prop
def Lq0g_0 (K:Bool→Prop):(Q127→Prop)→Q127→Prop:=fun k2 x3 =>
 (if decide (x3.1.2.2.2.1 < (↑(List.length x3.2.1.1):Int)) then
 (if 0≤x3.1.2.2.2.1∧x3.1.2.2.2.1 < (↑(List.length x3.2.1.1):Int) then
 (Eng.asInt IntKind.i64 (Eng.getC x3.2.1.1 (Int.toNat x3.1.2.2.2.1) (0:Nat)) False fun n4 =>
 (Eng.asInt IntKind.i64 (Eng.getC x3.2.1.1 (Int.toNat x3.1.2.2.2.1) (1:Nat)) False fun n5 =>
 (Eng.asBool (Eng.getC x3.2.1.1 (Int.toNat x3.1.2.2.2.1) (2:Nat)) False fun b6 =>
 (if 0≤x3.1.2.2.2.1∧x3.1.2.2.2.1 < (↑(List.length x3.2.2.1.1):Int) then
 (Eng.asInt IntKind.i64 (Eng.getC x3.2.2.1.1 (Int.toNat x3.1.2.2.2.1) (0:Nat)) False fun n7 =>
 (Eng.asInt IntKind.i64 (Eng.getC x3.2.2.1.1 (Int.toNat x3.1.2.2.2.1) (1:Nat)) False fun n8 =>
 (Eng.asBool (Eng.getC x3.2.2.1.1 (Int.toNat x3.1.2.2.2.1) (2:Nat)) False fun b9 =>
 (lt (!(n4 == n7 && (n5 == n8 && (b6 == b9 && true)))) fun v10 =>
 (if v10 then
 K false
 else
 k2 (((),(),x3.1.2.2.1,w64 (x3.1.2.2.2.1+1),()),x3.2))))))
 else
 False))))
 else
 False)
 else
 K true)
def Lq0g_0p:Lp:=⟨60,[.trim 60],pT128,pH129,0⟩
def Yq0g (a0:Q53) (a1:Q53) (K:Bool→Prop):Prop :=
 (if ((↑(List.length a0.1):Int) != (↑(List.length a1.1):Int)) then
 K false
 else
 (if (!a0.2.1 == a1.2.1) then
 K false
 else
 (if (a0.2.2.1 != a1.2.2.1) then
 K false
 else
 lp (Lq0g_0 K) (((),(),false,0,()),a0,a1,()))))
def Xq0g:Tq0g:=Yq0g
def Jq0g (X:Tq0g):Inst:=mkI 11 pL130 .nil pL9 .nil X
def Iq0g:Inst:=Jq0g Xq0g
theorem Eq0g:EqF Tryd.prog 45 gives Tryd.f11 [] [Lq0g_0p] (Jq0g (Yq0g)):=fun x y K=>by kernel_rfl
theorem Iq0g_ok:InstOk Tryd.prog G.1 Iq0g:=iok (gives:=gives) [Lq0g_0p] okNil 45 follows Tryd.func11 (by kernel_rfl) (fun x=>by kernel_rfl) (Eq0g)
abbrev Tq0d:Type:=(Bool→Prop)→Prop
def Yq0d (xq0e:Tq0e) (xq0v:Tq0v) (xq0z:Tq0z) (xq0g:Tq0g) (K:Bool→Prop):Prop :=
 xq0e (fun r0 =>
 xq0v r0 (fun r1 r2 r3 r4 r5 =>
 xq0v (ByteArray.mk #[(50:UInt8),(50:UInt8),(55:UInt8),(50:UInt8),(48:UInt8),(54:UInt8),(48:UInt8),(56:UInt8),(48:UInt8),(48:UInt8),(32:UInt8),(49:UInt8),(48:UInt8),(10:UInt8),(50:UInt8),(50:UInt8),(56:UInt8),(55:UInt8),(55:UInt8),(56:UInt8),(53:UInt8),(54:UInt8),(48:UInt8),(48:UInt8),(32:UInt8),(49:UInt8),(50:UInt8),(10:UInt8)]) (fun r6 r7 r8 r9 r10 =>
 xq0v (ByteArray.mk #[(35:UInt8),(32:UInt8),(97:UInt8),(10:UInt8),(10:UInt8),(50:UInt8),(50:UInt8),(55:UInt8),(50:UInt8),(48:UInt8),(54:UInt8),(48:UInt8),(56:UInt8),(48:UInt8),(48:UInt8),(32:UInt8),(57:UInt8),(10:UInt8)]) (fun r11 r12 r13 r14 r15 =>
 xq0v (ByteArray.mk #[(35:UInt8),(10:UInt8)]) (fun r16 r17 r18 r19 r20 =>
 xq0v (ByteArray.mk #[(50:UInt8),(50:UInt8),(55:UInt8),(50:UInt8),(48:UInt8),(54:UInt8),(48:UInt8),(56:UInt8),(48:UInt8),(48:UInt8),(32:UInt8),(49:UInt8),(48:UInt8),(10:UInt8),(50:UInt8),(50:UInt8),(56:UInt8),(55:UInt8),(55:UInt8),(56:UInt8),(53:UInt8),(54:UInt8),(48:UInt8),(49:UInt8),(32:UInt8),(49:UInt8),(49:UInt8),(10:UInt8)]) (fun r21 r22 r23 r24 r25 =>
 xq0e (fun r26 =>
 (if (↑(ByteArray.size r26+(13:Nat)):Int) > 9223372036854775807 then
 False
 else
 (lt (r26++ByteArray.mk #[(35:UInt8),(104:UInt8),(32:UInt8),(49:UInt8),(32:UInt8),(50:UInt8),(32:UInt8),(51:UInt8),(32:UInt8),(52:UInt8),(32:UInt8),(53:UInt8),(10:UInt8)]) fun v27 =>
 xq0v v27 (fun r28 r29 r30 r31 r32 =>
 xq0z ([Eng.V.agg [Eng.V.c (Value.int IntKind.i64 911),Eng.V.c (Value.int IntKind.i64 1),Eng.V.c (Value.bool false)],Eng.V.agg [Eng.V.c (Value.int IntKind.i64 1095),Eng.V.c (Value.int IntKind.i64 1),Eng.V.c (Value.bool false)]],true,1498608000,()) 7 (fun r33 r34 =>
 xq0v r33 (fun r35 r36 r37 r38 r39 =>
 xq0z ([Eng.V.agg [Eng.V.c (Value.int IntKind.i64 911),Eng.V.c (Value.int IntKind.i64 1),Eng.V.c (Value.bool false)],Eng.V.agg [Eng.V.c (Value.int IntKind.i64 1095),Eng.V.c (Value.int IntKind.i64 1),Eng.V.c (Value.bool false)]],true,1498608000,()) (-1) (fun r40 r41 =>
 xq0g (r3,r1.2) ([Eng.V.agg [Eng.V.c (Value.int IntKind.i64 911),Eng.V.c (Value.int IntKind.i64 1),Eng.V.c (Value.bool false)],Eng.V.agg [Eng.V.c (Value.int IntKind.i64 1095),Eng.V.c (Value.int IntKind.i64 1),Eng.V.c (Value.bool false)]],true,1498608000,()) (fun r42 =>
 (if r42 then
 (if (r2.1 == 0 && (r2.2.1 == 0 && true)) then
 (if (r7.1 == 2 && (r7.2.1 == 6 && true)) then
 (if (r12.1 == 3 && (r12.2.1 == 9 && true)) then
 (if (r17.1 == 2 && (r17.2.1 == 2 && true)) then
 (if (r22.1 == 2 && (r22.2.1 == 5 && true)) then
 (if (r29.1 == 9 && (r29.2.1 == 3 && true)) then
 (if r34 then
 xq0g (r37,r35.2) ([Eng.V.agg [Eng.V.c (Value.int IntKind.i64 911),Eng.V.c (Value.int IntKind.i64 1),Eng.V.c (Value.bool false)],Eng.V.agg [Eng.V.c (Value.int IntKind.i64 1095),Eng.V.c (Value.int IntKind.i64 1),Eng.V.c (Value.bool false)]],true,1498608000,()) (fun r43 =>
 (if r43 then
 (if (r36.1 == 0 && (r36.2.1 == 0 && true)) then
 K !r41
 else
 K false)
 else
 K false))
 else
 K false)
 else
 K false)
 else
 K false)
 else
 K false)
 else
 K false)
 else
 K false)
 else
 K false)
 else
 K false)))))))))))))))
def Xq0d:Tq0d:=Yq0d Xq0e Xq0v Xq0z Xq0g
def Jq0d (X:Tq0d):Inst:=mkI 7 .nil .nil pL9 .nil X
def Iq0d:Inst:=Jq0d Xq0d
theorem Eq0d (xq0e:Tq0e) (xq0v:Tq0v) (xq0z:Tq0z) (xq0g:Tq0g):EqF Tryd.prog 116 gives Tryd.f7 [Jq0e xq0e,Jq0v xq0v,Jq0z xq0z,Jq0g xq0g] [] (Jq0d (Yq0d xq0e xq0v xq0z xq0g)):=fun x y K=>by kernel_rfl
theorem Iq0d_ok:InstOk Tryd.prog G.1 Iq0d:=iok (gives:=gives) [] (okCons Iq0e_ok (okCons Iq0v_ok (okCons Iq0z_ok (okCons Iq0g_ok okNil)))) 116 follows Tryd.func7 (by kernel_rfl) (fun x=>by kernel_rfl) (Eq0d Xq0e Xq0v Xq0z Xq0g)
abbrev Tq09:Type:=ByteArray→ByteArray→Int→(Bool→Prop)→Prop
def Lq09_2 (xq0v:Tq0v) (xq0g:Tq0g) (xq15:Tq15) (K:Bool→Prop) (k7:Q134→Prop) (k9:Q135→Prop):(Q136→Prop)→Q136→Prop:=fun k17 x18 =>
 (if decide (x18.1.2.2.2.2.2.2.1 < (↑(List.length x18.2.1.1):Int)) then
 (if 0≤x18.1.2.2.2.2.2.2.1∧x18.1.2.2.2.2.2.2.1 < (↑(List.length x18.2.1.1):Int) then
 (Eng.asStr (Eng.getC x18.2.1.1 (Int.toNat x18.1.2.2.2.2.2.2.1) (0:Nat)) False fun t19 =>
 (if (↑(ByteArray.size x18.1.2.2.2.2.2.1+ByteArray.size t19):Int) > 9223372036854775807 then
 False
 else
 (if (↑(ByteArray.size (x18.1.2.2.2.2.2.1++t19)+(1:Nat)):Int) > 9223372036854775807 then
 False
 else
 (lt (x18.1.2.2.2.2.2.1++t19++ByteArray.mk #[(10:UInt8)]) fun v20 =>
 k17 ((x18.1.1,x18.1.2.1,x18.1.2.2.1,(),x18.1.2.2.2.2.1,v20,w64 (x18.1.2.2.2.2.2.2.1+1),()),x18.2)))))
 else
 False)
 else
 xq0v x18.1.2.2.2.2.2.1 (fun r21 r22 r23 r24 r25 =>
 xq0v x18.1.2.2.2.2.1 (fun r26 r27 r28 r29 r30 =>
 (if decide (r22.1 > x18.1.1) then
 (if x18.1.2.2.1 then
 xq0g (r23,r21.2) (r28,r26.2) (fun r31 =>
 (if r31 then
 (lt (w64 (r22.1+2) == r27.1 && (r22.2.1 == r27.2.1 && true)) fun v32 =>
 (if v32 then
 xq15 x18.1.2.2.2.2.1 (fun r33 =>
 xq15 x18.1.2.2.2.2.2.1 (fun r34 =>
 (lt (r33.1 == r34.1 && (r33.2.1 == r34.2.1 && (r33.2.2.1 == r34.2.2.1 && (r33.2.2.2.1 == r34.2.2.2.1 && (r33.2.2.2.2.1 == r34.2.2.2.2.1 && (r33.2.2.2.2.2.1 == r34.2.2.2.2.2.1 && (r33.2.2.2.2.2.2.1 == r34.2.2.2.2.2.2.1 && (r33.2.2.2.2.2.2.2.1 == r34.2.2.2.2.2.2.2.1 && (r33.2.2.2.2.2.2.2.2.1 == r34.2.2.2.2.2.2.2.2.1 && (r33.2.2.2.2.2.2.2.2.2.1 == r34.2.2.2.2.2.2.2.2.2.1 && (r33.2.2.2.2.2.2.2.2.2.2.1 == r34.2.2.2.2.2.2.2.2.2.2.1 && (r33.2.2.2.2.2.2.2.2.2.2.2.1 == r34.2.2.2.2.2.2.2.2.2.2.2.1 && (r33.2.2.2.2.2.2.2.2.2.2.2.2.1 == r34.2.2.2.2.2.2.2.2.2.2.2.2.1 && (r33.2.2.2.2.2.2.2.2.2.2.2.2.2.1 == r34.2.2.2.2.2.2.2.2.2.2.2.2.2.1 && (r33.2.2.2.2.2.2.2.2.2.2.2.2.2.2.1 == r34.2.2.2.2.2.2.2.2.2.2.2.2.2.2.1 && (r33.2.2.2.2.2.2.2.2.2.2.2.2.2.2.2.1 == r34.2.2.2.2.2.2.2.2.2.2.2.2.2.2.2.1 && (r33.2.2.2.2.2.2.2.2.2.2.2.2.2.2.2.2.1 == r34.2.2.2.2.2.2.2.2.2.2.2.2.2.2.2.2.1 && (r33.2.2.2.2.2.2.2.2.2.2.2.2.2.2.2.2.2.1 == r34.2.2.2.2.2.2.2.2.2.2.2.2.2.2.2.2.2.1 && (r33.2.2.2.2.2.2.2.2.2.2.2.2.2.2.2.2.2.2.1 == r34.2.2.2.2.2.2.2.2.2.2.2.2.2.2.2.2.2.2.1 && (r33.2.2.2.2.2.2.2.2.2.2.2.2.2.2.2.2.2.2.2.1 == r34.2.2.2.2.2.2.2.2.2.2.2.2.2.2.2.2.2.2.2.1 && true)))))))))))))))))))) fun v35 =>
 K v35)))
 else
 K false))
 else
 K false))
 else
 K false)
 else
 (if x18.1.2.2.1 then
 xq0g (r23,r21.2) (r28,r26.2) (fun r36 =>
 (if r36 then
 (if (r22.1 == r27.1 && (r22.2.1 == r27.2.1 && true)) then
 xq15 x18.1.2.2.2.2.1 (fun r37 =>
 xq15 x18.1.2.2.2.2.2.1 (fun r38 =>
 (lt (r37.1 == r38.1 && (r37.2.1 == r38.2.1 && (r37.2.2.1 == r38.2.2.1 && (r37.2.2.2.1 == r38.2.2.2.1 && (r37.2.2.2.2.1 == r38.2.2.2.2.1 && (r37.2.2.2.2.2.1 == r38.2.2.2.2.2.1 && (r37.2.2.2.2.2.2.1 == r38.2.2.2.2.2.2.1 && (r37.2.2.2.2.2.2.2.1 == r38.2.2.2.2.2.2.2.1 && (r37.2.2.2.2.2.2.2.2.1 == r38.2.2.2.2.2.2.2.2.1 && (r37.2.2.2.2.2.2.2.2.2.1 == r38.2.2.2.2.2.2.2.2.2.1 && (r37.2.2.2.2.2.2.2.2.2.2.1 == r38.2.2.2.2.2.2.2.2.2.2.1 && (r37.2.2.2.2.2.2.2.2.2.2.2.1 == r38.2.2.2.2.2.2.2.2.2.2.2.1 && (r37.2.2.2.2.2.2.2.2.2.2.2.2.1 == r38.2.2.2.2.2.2.2.2.2.2.2.2.1 && (r37.2.2.2.2.2.2.2.2.2.2.2.2.2.1 == r38.2.2.2.2.2.2.2.2.2.2.2.2.2.1 && (r37.2.2.2.2.2.2.2.2.2.2.2.2.2.2.1 == r38.2.2.2.2.2.2.2.2.2.2.2.2.2.2.1 && (r37.2.2.2.2.2.2.2.2.2.2.2.2.2.2.2.1 == r38.2.2.2.2.2.2.2.2.2.2.2.2.2.2.2.1 && (r37.2.2.2.2.2.2.2.2.2.2.2.2.2.2.2.2.1 == r38.2.2.2.2.2.2.2.2.2.2.2.2.2.2.2.2.1 && (r37.2.2.2.2.2.2.2.2.2.2.2.2.2.2.2.2.2.1 == r38.2.2.2.2.2.2.2.2.2.2.2.2.2.2.2.2.2.1 && (r37.2.2.2.2.2.2.2.2.2.2.2.2.2.2.2.2.2.2.1 == r38.2.2.2.2.2.2.2.2.2.2.2.2.2.2.2.2.2.2.1 && (r37.2.2.2.2.2.2.2.2.2.2.2.2.2.2.2.2.2.2.2.1 == r38.2.2.2.2.2.2.2.2.2.2.2.2.2.2.2.2.2.2.2.1 && true)))))))))))))))))))) fun v39 =>
 K v39)))
 else
 K false)
 else
 K false))
 else
 K false)))))
def Lq09_2p:Lp:=⟨13764,[.trim 13764],pT137,pH138,0⟩
def Lq09_1 (xq0v:Tq0v) (xq0g:Tq0g) (xq15:Tq15) (K:Bool→Prop) (k7:Q134→Prop):(Q135→Prop)→Q135→Prop:=fun k9 x10 =>
 (if decide (x10.1.2.2.2.2.2.2.1≤(↑(List.length x10.2.1.1):Int)) then
 (if (x10.1.2.2.2.2.2.2.1 == x10.1.2.1) then
 (if (↑(ByteArray.size x10.1.2.2.2.2.2.1+(2:Nat)):Int) > 9223372036854775807 then
 False
 else
 (lt (x10.1.2.2.2.2.2.1++ByteArray.mk #[(35:UInt8),(32:UInt8)]) fun v11 =>
 (if (↑(ByteArray.size v11+ByteArray.size x10.1.1):Int) > 9223372036854775807 then
 False
 else
 (if (↑(ByteArray.size (v11++x10.1.1)+(4:Nat)):Int) > 9223372036854775807 then
 False
 else
 (lt (v11++x10.1.1++ByteArray.mk #[(10:UInt8),(32:UInt8),(9:UInt8),(10:UInt8)]) fun v12 =>
 (if decide (x10.1.2.2.2.2.2.2.1 < (↑(List.length x10.2.1.1):Int)) then
 (if 0≤x10.1.2.2.2.2.2.2.1∧x10.1.2.2.2.2.2.2.1 < (↑(List.length x10.2.1.1):Int) then
 (Eng.asStr (Eng.getC x10.2.1.1 (Int.toNat x10.1.2.2.2.2.2.2.1) (0:Nat)) False fun t13 =>
 (if (↑(ByteArray.size v12+ByteArray.size t13):Int) > 9223372036854775807 then
 False
 else
 (if (↑(ByteArray.size (v12++t13)+(1:Nat)):Int) > 9223372036854775807 then
 False
 else
 (lt (v12++t13++ByteArray.mk #[(10:UInt8)]) fun v14 =>
 k9 ((x10.1.1,x10.1.2.1,x10.1.2.2.1,x10.1.2.2.2.1,(),v14,w64 (x10.1.2.2.2.2.2.2.1+1),()),x10.2)))))
 else
 False)
 else
 k9 ((x10.1.1,x10.1.2.1,x10.1.2.2.1,x10.1.2.2.2.1,(),v12,w64 (x10.1.2.2.2.2.2.2.1+1),()),x10.2)))))))
 else
 (if decide (x10.1.2.2.2.2.2.2.1 < (↑(List.length x10.2.1.1):Int)) then
 (if 0≤x10.1.2.2.2.2.2.2.1∧x10.1.2.2.2.2.2.2.1 < (↑(List.length x10.2.1.1):Int) then
 (Eng.asStr (Eng.getC x10.2.1.1 (Int.toNat x10.1.2.2.2.2.2.2.1) (0:Nat)) False fun t15 =>
 (if (↑(ByteArray.size x10.1.2.2.2.2.2.1+ByteArray.size t15):Int) > 9223372036854775807 then
 False
 else
 (if (↑(ByteArray.size (x10.1.2.2.2.2.2.1++t15)+(1:Nat)):Int) > 9223372036854775807 then
 False
 else
 (lt (x10.1.2.2.2.2.2.1++t15++ByteArray.mk #[(10:UInt8)]) fun v16 =>
 k9 ((x10.1.1,x10.1.2.1,x10.1.2.2.1,x10.1.2.2.2.1,(),v16,w64 (x10.1.2.2.2.2.2.2.1+1),()),x10.2)))))
 else
 False)
 else
 k9 ((x10.1.1,x10.1.2.1,x10.1.2.2.1,x10.1.2.2.2.1,(),x10.1.2.2.2.2.2.1,w64 (x10.1.2.2.2.2.2.2.1+1),()),x10.2)))
 else
 lp (Lq09_2 xq0v xq0g xq15 K k7 k9) ((x10.1.2.1,x10.1.2.2.1,x10.1.2.2.2.1,(),x10.1.2.2.2.2.2.1,ByteArray.mk #[],0,()),x10.2))
def Lq09_1p:Lp:=⟨3526,[.trim 3526],pT139,pH138,0⟩
def Lq09_0 (xq0v:Tq0v) (xq0g:Tq0g) (xq15:Tq15) (K:Bool→Prop):(Q134→Prop)→Q134→Prop:=fun k7 x8 =>
 (if decide (x8.1.2.2.2.2.2.1 < (↑(ByteArray.size x8.1.1):Int)) then
 (if 0≤x8.1.2.2.2.2.2.1∧x8.1.2.2.2.2.2.1 < (↑(ByteArray.size x8.1.1):Int) then
 (if (Eng.bAt x8.1.1 (Int.toNat x8.1.2.2.2.2.2.1) == 10) then
 K x8.1.2.2.2.1
 else
 k7 ((x8.1.1,x8.1.2.1,x8.1.2.2.1,x8.1.2.2.2.1,(),w64 (x8.1.2.2.2.2.2.1+1),()),x8.2))
 else
 False)
 else
 lp (Lq09_1 xq0v xq0g xq15 K k7) ((x8.1.1,x8.1.2.1,x8.1.2.2.1,x8.1.2.2.2.1,(),ByteArray.mk #[],0,()),x8.2))
def Lq09_0p:Lp:=⟨966,[.trim 966],pT140,pH138,0⟩
def Yq09 (xq0d:Tq0d) (xq0r:Tq0r) (xq0v:Tq0v) (xq0g:Tq0g) (xq15:Tq15) (a0:ByteArray) (a1:ByteArray) (a2:Int) (K:Bool→Prop):Prop :=
 xq0d (fun r3 =>
 xq0r a0 (fun r4 r5 r6 =>
 (if decide ((↑(ByteArray.size a0):Int) > 2000) then
 K r3
 else
 (if decide ((↑(ByteArray.size a1):Int) > 100) then
 K r3
 else
 (if decide (a2 < 0) then
 K r3
 else
 (if decide (a2 > (↑(List.length r4):Int)) then
 K r3
 else
 lp (Lq09_0 xq0v xq0g xq15 K) ((a1,a2,false,r3,(),0,()),(r4,r5,r6),())))))))
def Xq09:Tq09:=Yq09 Xq0d Xq0r Xq0v Xq0g Xq15
def Jq09 (X:Tq09):Inst:=mkI 5 pL29 .nil pL9 .nil X
def Iq09:Inst:=Jq09 Xq09
theorem Eq09 (xq0d:Tq0d) (xq0r:Tq0r) (xq0v:Tq0v) (xq0g:Tq0g) (xq15:Tq15):EqF Tryd.prog 125 gives Tryd.f5 [Jq0d xq0d,Jq0r xq0r,Jq0v xq0v,Jq0g xq0g,Jq15 xq15] [Lq09_0p,Lq09_1p,Lq09_2p] (Jq09 (Yq09 xq0d xq0r xq0v xq0g xq15)):=fun x y K=>by kernel_rfl
theorem Iq09_ok:InstOk Tryd.prog G.1 Iq09:=iok (gives:=gives) [Lq09_0p,Lq09_1p,Lq09_2p] (okCons Iq0d_ok (okCons Iq0r_ok (okCons Iq0v_ok (okCons Iq0g_ok (okCons Iq15_ok okNil))))) 125 follows Tryd.func5 (by kernel_rfl) (fun x=>by kernel_rfl) (Eq09 Xq0d Xq0r Xq0v Xq0g Xq15)
end Go.Proofs.YtcljiciefhabgaaDoor
end
section
set_option linter.unusedVariables false
set_option linter.unusedSimpArgs false
namespace Go.Proofs.YtcljiciefhabgaaDoor
open Go Go.Proofs.YtcljiciefhabgaaDoor.Eng
abbrev akListRemarks0:AK:=.str
abbrev akListRemarks1:AK:=.str
abbrev akListRemarks2:AK:=(.int .i64)
def PureListRemarks:Prop:=∀ (a0:akListRemarks0.T) (h0:akListRemarks0.good a0) (b0:ByteArray.size a0≤1048576) (a1:akListRemarks1.T) (h1:akListRemarks1.good a1) (b1:ByteArray.size a1≤1048576) (a2:akListRemarks2.T) (h2:akListRemarks2.good a2),Xq09 (akListRemarks0.DV a0) (akListRemarks1.DV a1) (akListRemarks2.DV a2) (fun b=>b=true)
end Go.Proofs.YtcljiciefhabgaaDoor
end
section
set_option linter.unusedVariables false
set_option linter.unusedSimpArgs false
namespace Go.Proofs.YtcljiciefhabgaaDoor.Pl
open Go
def digsN:Nat→Nat→List UInt8
 | 0,_=>[]
 | k+1,u=>if u < 10 then [UInt8.ofNat (48+u)] else digsN k (u / 10)++[UInt8.ofNat (48+u % 10)]
theorem digsN_eq:∀ k u,u < 10 ^ (k+1)→digsN (k+1) u=Lib.decDigits u
 | 0,u,h=>by rw [Lib.decDigits,digsN,if_pos (by simpa using h),dif_pos (by simpa using h)]
 | k+1,u,h=>by
  rw [Lib.decDigits,digsN]
  by_cases h1:u < 10
  ·rw [if_pos h1,dif_pos h1]
  ·rw [if_neg h1,dif_neg h1,digsN_eq k (u / 10) (by rw [Nat.pow_succ] at h; omega)]
def itoaK (n:Int):List UInt8:=if n < 0 then 45 :: digsN 20 n.natAbs else digsN 20 n.toNat
theorem itoaK_eq (n:Int) (h0:-9223372036854775808≤n) (h1:n≤9223372036854775807):itoaK n=Lib.itoa n:=by
 unfold itoaK Lib.itoa
 split
 ·rw [digsN_eq 19 _ (by omega)]
 ·rw [digsN_eq 19 _ (by omega)]
def isDig (c:UInt8):Bool:=48≤c.toNat && c.toNat≤57
abbrev S (l:List UInt8):ByteArray:=⟨l.toArray⟩
theorem of_S (s:ByteArray):s=S s.data.toList:=by cases s; simp [S]
theorem S_size (l:List UInt8):(S l).size=l.length:=by simp [S,ByteArray.size]
theorem S_append (a b:List UInt8):S a++S b=S (a++b):=ByteArray.mk_append_mk a b
theorem S_toList (l:List UInt8):(S l).toList=l:=ByteArray.toList_mk l
theorem S_data (l:List UInt8):(S l).data.toList=l:=by simp [S]
theorem S_extract (l:List UInt8) (a b:Nat):(S l).extract a b=S ((l.drop a).take (b - a)):=by rw [Lib.extract_eq,S_data]
theorem u8_lt (c:UInt8):c.toNat < 256:=c.toNat_lt
theorem u8_eq {a b:UInt8} (h:a.toNat=b.toNat):a=b:=UInt8.toNat_inj.1 h
def dl (l:List UInt8):Nat:=(l.takeWhile isDig).length
def valL (l:List UInt8):Nat:=l.foldl (fun n c=>10 * n+(c.toNat - 48)) 0
end Go.Proofs.YtcljiciefhabgaaDoor.Pl
end
section
set_option linter.unusedVariables false
set_option linter.unusedSimpArgs false
namespace Go.Proofs.YtcljiciefhabgaaDoor.Pl
open Go
def pairL (m:Nat):List UInt8:=58 :: (digsN 20 (m / 10)++digsN 20 (m % 10))
theorem digsN_len:∀ k u,(digsN k u).length≤k
 | 0,_=>by simp [digsN]
 | k+1,u=>by
  rw [digsN]
  split
  ·simp
  ·have:=digsN_len k (u / 10); simp; omega
def clockB (a:Nat):List UInt8:=digsN 20 (a / 3600)++(if a % 60≠0 then pairL (a / 60 % 60)++pairL (a % 60) else if a / 60 % 60≠0 then pairL (a / 60 % 60) else [])
def clockL (sec:Int):List UInt8×Bool:=if -604799≤sec∧sec≤604799 then ((if sec < 0 then [45] else [])++clockB sec.natAbs,true) else ([],false)
end Go.Proofs.YtcljiciefhabgaaDoor.Pl
end
section
set_option linter.unusedVariables false
set_option linter.unusedSimpArgs false
namespace Go.Proofs.YtcljiciefhabgaaDoor.Pl
open Go
def leapY (y:Int):Bool:=decide (y % 4=0∧(y % 100≠0∨y % 400=0))
def fst (y:Int):Int:=365 * (y - 1)+(y - 1) / 4 - (y - 1) / 100+(y - 1) / 400 - 719162
def cum0 (m:Int):Int:=if m=1 then 0 else if m=2 then 31 else if m=3 then 59 else if m=4 then 90 else if m=5 then 120 else if m=6 then 151 else if m=7 then 181 else if m=8 then 212 else if m=9 then 243 else if m=10 then 273 else if m=11 then 304 else if m=12 then 334 else 365
def cum (y m:Int):Int:=cum0 m+if 2 < m∧leapY y=true then 1 else 0
def dim (y m:Int):Int:=if m=2 then (if leapY y=true then 29 else 28) else if m=4 then 30 else if m=6 then 30 else if m=9 then 30 else if m=11 then 30 else 31
def num (y m d:Int):Int:=fst y+cum y m+d - 1
def Vld (y m d:Int):Prop:=1≤y∧y≤9999∧1≤m∧m≤12∧1≤d∧d≤dim y m
theorem leapY_iff (y:Int):leapY y=true↔(y % 4=0∧(y % 100≠0∨y % 400=0)):=by unfold leapY; exact decide_eq_true_iff
theorem month_cases {m:Int} (h1:1≤m) (h2:m≤12):m=1∨m=2∨m=3∨m=4∨m=5∨m=6∨m=7∨m=8∨m=9∨m=10∨m=11∨m=12:=by omega
theorem dim_bd (y m:Int):28≤dim y m∧dim y m≤31:=by unfold dim; repeat' split <;> omega
theorem fst_succ (y:Int):fst (y+1)=fst y+365+if leapY y=true then 1 else 0:=by
 have:=leapY_iff y
 unfold fst
 by_cases h:leapY y=true
 ·rw [if_pos h]; have:=this.1 h; omega
 ·rw [if_neg h]
  have h':¬ (y % 4=0∧(y % 100≠0∨y % 400=0)):=fun z=>h (this.2 z)
  omega
theorem cum_succ (y m:Int) (h1:1≤m) (h2:m≤12):cum y m+dim y m=if m=12 then 365+(if leapY y=true then 1 else 0) else cum y (m+1):=by
 rcases month_cases h1 h2 with rfl | rfl | rfl | rfl | rfl | rfl | rfl | rfl | rfl | rfl | rfl | rfl <;>
  cases hl:leapY y <;> simp [cum,cum0,dim,hl]
def sy (y m:Int):Int:=if m < 3 then y - 1 else y
def sm (m:Int):Int:=if m < 3 then m+12 else m
def numP (y m d:Int):Int:=146097 * (sy y m / 400)+365 * (sy y m % 400)+(sy y m % 400) / 4 - (sy y m % 400) / 100+((153 * (sm m - 3)+2) / 5+d - 1) - 719468
theorem numP_eq {y m d:Int} (h1:1≤m) (h2:m≤12):numP y m d=num y m d:=by
 have hl:=leapY_iff y
 have key:∀ b:Bool,leapY y=b→numP y m d=num y m d:=by
  intro b hb
  cases b with
  | true =>
   have hl':=hl.1 hb
   rcases month_cases h1 h2 with rfl | rfl | rfl | rfl | rfl | rfl | rfl | rfl | rfl | rfl | rfl | rfl <;>
    simp [numP,num,fst,cum,cum0,sy,sm,hb] <;> omega
  | false =>
   have hl':¬ (y % 4=0∧(y % 100≠0∨y % 400=0)):=fun z=>by rw [hl.2 z] at hb; cases hb
   rcases month_cases h1 h2 with rfl | rfl | rfl | rfl | rfl | rfl | rfl | rfl | rfl | rfl | rfl | rfl <;>
    simp [numP,num,fst,cum,cum0,sy,sm,hb] <;> omega
 exact key _ rfl
def st (b:Int):Int:=365 * b+b / 4 - b / 100
def gy (o:Int):Int:=o - o / 1460+o / 36524 - o / 146096
theorem gy_mono {a b:Int} (h0:0≤a) (h:a≤b) (hb:b≤146096):gy a≤gy b:=by unfold gy; omega
theorem ends:∀ n:Nat,n < 400→(gy (st n) / 365=n∧gy (st (n+1) - (if n=399 then 0 else 1)) / 365=n):=by decide +kernel
theorem year_of {o b:Int} (h0:0≤b) (h1:b < 400) (h2:st b≤o) (h3:o < st (b+1)∨(b=399∧o≤146096)):gy o / 365=b:=by
 obtain ⟨n,rfl⟩:=Int.eq_ofNat_of_zero_le h0
 obtain ⟨e1,e2⟩:=ends n (by omega)
 have hs0:0≤st n:=by unfold st; omega
 have hs1:st (n+1)≤146097:=by unfold st; omega
 by_cases hn:n=399
 ·subst hn
  have hm:st ((399:Nat)+1)=146096:=by decide
  rw [if_pos rfl,hm] at e2
  have ho:o≤146096:=by
   rcases h3 with h3 | h3
   ·have:((399:Nat):Int)+1=400:=rfl
    rw [this] at h3; have:st 400=146096:=by decide
    omega
   ·exact h3.2
  have g1:=gy_mono hs0 h2 ho
  have g2:=gy_mono (by omega:0≤o) ho (Int.le_refl _)
  simp only [Int.sub_zero] at e2
  omega
 ·rw [if_neg hn] at e2
  have ho:o≤st (n+1) - 1:=by
   rcases h3 with h3 | h3
   ·omega
   ·omega
  have g1:=gy_mono hs0 h2 (by omega)
  have g2:=gy_mono (by omega:0≤o) ho (by omega)
  omega
def era (n:Int):Int:=(n+719468) / 146097
def ofE (n:Int):Int:=(n+719468) % 146097
def yrs (n:Int):Int:=gy (ofE n) / 365
def doy (n:Int):Int:=ofE n - st (yrs n)
def mon (n:Int):Int:=(5 * doy n+2) / 153
def dayP (n:Int):Int:=doy n - (153 * mon n+2) / 5+1
def monP (n:Int):Int:=if mon n+3 > 12 then mon n+3 - 12 else mon n+3
def yearP (n:Int):Int:=400 * era n+(if mon n+3 > 12 then yrs n+1 else yrs n)
theorem date_num' {y m d:Int} (h:Vld y m d):(0≤doy (num y m d)∧doy (num y m d)≤365)∧yearP (num y m d)=y∧monP (num y m d)=m∧dayP (num y m d)=d:=by
 obtain ⟨a1,a2,h1,h2,h3,h4⟩:=h
 have hl:=leapY_iff y
 rw [← numP_eq h1 h2]
 have hb:0≤sy y m % 400∧sy y m % 400 < 400:=by omega
 have hdoy:0≤(153 * (sm m - 3)+2) / 5+d - 1∧st (sy y m % 400)+((153 * (sm m - 3)+2) / 5+d - 1)≤146096 ∧
   (st (sy y m % 400)+((153 * (sm m - 3)+2) / 5+d - 1) < st (sy y m % 400+1)∨sy y m % 400=399):=by
  unfold st
  cases hb':leapY y with
  | true =>
   have hl':=hl.1 hb'
   rcases month_cases h1 h2 with rfl | rfl | rfl | rfl | rfl | rfl | rfl | rfl | rfl | rfl | rfl | rfl <;>
    simp [sy,sm,dim,hb'] at h4 ⊢ <;> omega
  | false =>
   have hl':¬ (y % 4=0∧(y % 100≠0∨y % 400=0)):=fun z=>by rw [hl.2 z] at hb'; cases hb'
   rcases month_cases h1 h2 with rfl | rfl | rfl | rfl | rfl | rfl | rfl | rfl | rfl | rfl | rfl | rfl <;>
    simp [sy,sm,dim,hb'] at h4 ⊢ <;> omega
 have hst0:0≤st (sy y m % 400):=by unfold st; omega
 have hN:numP y m d+719468=146097 * (sy y m / 400)+(st (sy y m % 400)+((153 * (sm m - 3)+2) / 5+d - 1)):=by unfold numP st; omega
 have hera:era (numP y m d)=sy y m / 400:=by unfold era; omega
 have hof:ofE (numP y m d)=st (sy y m % 400)+((153 * (sm m - 3)+2) / 5+d - 1):=by unfold ofE; omega
 have hyrs:yrs (numP y m d)=sy y m % 400:=by
  unfold yrs
  rw [hof]
  refine year_of hb.1 hb.2 (by omega) ?_
  rcases hdoy.2.2 with h | h
  ·exact .inl h
  ·exact .inr ⟨h,hdoy.2.1⟩
 have hdy:doy (numP y m d)=(153 * (sm m - 3)+2) / 5+d - 1:=by unfold doy; rw [hof,hyrs]; omega
 have hdd:=dim_bd y m
 have hmon:mon (numP y m d)=sm m - 3:=by
  unfold mon
  rw [hdy]
  rcases month_cases h1 h2 with rfl | rfl | rfl | rfl | rfl | rfl | rfl | rfl | rfl | rfl | rfl | rfl <;>
   simp [sm,dim] at h4 ⊢ <;> omega
 refine ⟨?_,?_,?_,?_⟩
 ·rw [hdy]
  rcases month_cases h1 h2 with rfl | rfl | rfl | rfl | rfl | rfl | rfl | rfl | rfl | rfl | rfl | rfl <;>
   simp [sm,dim] at h4 ⊢ <;> omega
 ·unfold yearP
  rw [hera,hyrs,hmon]
  rcases month_cases h1 h2 with rfl | rfl | rfl | rfl | rfl | rfl | rfl | rfl | rfl | rfl | rfl | rfl <;>
   simp [sm,sy] <;> omega
 ·unfold monP
  rw [hmon]
  rcases month_cases h1 h2 with rfl | rfl | rfl | rfl | rfl | rfl | rfl | rfl | rfl | rfl | rfl | rfl <;> simp [sm]
 ·unfold dayP
  rw [hdy,hmon]
  omega
theorem date_num {y m d:Int} (h:Vld y m d):yearP (num y m d)=y∧monP (num y m d)=m∧dayP (num y m d)=d:=(date_num' h).2
theorem year_ex (n:Int) (h0:fst 1≤n):∀ k:Nat,n < fst (1+k)→∃ y:Int,1≤y∧y≤k∧fst y≤n∧n < fst (y+1)
 | 0,h=>by simp at h; omega
 | k+1,h=>by
  by_cases h1:n < fst (1+k)
  ·obtain ⟨y,a,b,c,d⟩:=year_ex n h0 k h1
   exact ⟨y,a,by omega,c,d⟩
  ·exact ⟨1+k,by omega,by omega,by omega,by have e:((k+1:Nat):Int)=(k:Int)+1:=rfl; rw [e] at h; rw [Int.add_assoc]; exact h⟩
theorem month_ex (y r:Int) (h0:0≤r):∀ k:Nat,k < 12→r < cum y (1+k)→∃ m:Int,1≤m∧m≤k∧cum y m≤r∧r < cum y (m+1)
 | 0,_,h=>by simp [cum,cum0] at h; omega
 | k+1,hk,h=>by
  by_cases h1:r < cum y (1+k)
  ·obtain ⟨m,a,b,c,d⟩:=month_ex y r h0 k (by omega) h1
   exact ⟨m,a,by omega,c,d⟩
  ·exact ⟨1+k,by omega,by omega,by omega,by have e:((k+1:Nat):Int)=(k:Int)+1:=rfl; rw [e] at h; rw [Int.add_assoc]; exact h⟩
theorem date_ex {n:Int} (h0:-719162≤n) (h1:n≤2932896):∃ y m d,Vld y m d∧num y m d=n:=by
 obtain ⟨y,a,b,c,e⟩:=year_ex n (by
                     have:fst 1=-719162:=by decide
                     omega) 9999 (by
                             have:fst (1+(9999:Nat))=2932897:=by decide
                             omega)
 rw [fst_succ] at e
 by_cases h:n - fst y < cum y 12
 ·obtain ⟨m,a',b',c',e'⟩:=month_ex y (n - fst y) (by omega) 11 (by omega) h
  have hs:=cum_succ y m a' (by omega)
  rw [if_neg (by omega)] at hs
  exact ⟨y,m,n - fst y - cum y m+1,⟨a,by omega,a',by omega,by omega,by omega⟩,by unfold num; omega⟩
 ·have hs:=cum_succ y 12 (by omega) (by omega)
  rw [if_pos rfl] at hs
  exact ⟨y,12,n - fst y - cum y 12+1,⟨a,by omega,by omega,by omega,by omega,by omega⟩,by unfold num; omega⟩
theorem num_date {n:Int} (h0:-719162≤n) (h1:n≤2932896):Vld (yearP n) (monP n) (dayP n)∧num (yearP n) (monP n) (dayP n)=n:=by
 obtain ⟨y,m,d,hv,rfl⟩:=date_ex h0 h1
 obtain ⟨e1,e2,e3⟩:=date_num hv
 rw [e1,e2,e3]
 exact ⟨hv,rfl⟩
theorem doy_bd {n:Int} (h0:-719162≤n) (h1:n≤2932896):0≤doy n∧doy n≤365:=by
 obtain ⟨y,m,d,hv,rfl⟩:=date_ex h0 h1
 exact (date_num' hv).1
def wk (n:Int):Int:=(n+4) % 7
end Go.Proofs.YtcljiciefhabgaaDoor.Pl
end
section
set_option linter.unusedVariables false
set_option linter.unusedSimpArgs false
namespace Go.Proofs.YtcljiciefhabgaaDoor.Pl
open Go
def rightR (K A B C X:Int):Bool :=
 decide ((-604799≤X∧X≤604799)∧((K=0∧1≤A∧A≤12∧1≤B∧B≤5∧0≤C∧C≤6)∨(K=1∧1≤A∧A≤365∧B=0∧C=0)∨(K=2∧0≤A∧A≤365∧B=0∧C=0)))
def offW (A B C y:Int):Int:=let k:=(C - wk (num y A 1)+7) % 7+7 * (B - 1); if k≥dim y A then k - 7 else k
def ruleDay (K A B C y:Int):Int:=if K=2 then fst y+A else if K=1 then (if A≤59∨leapY y=false then fst y - 1+A else fst y+A) else num y A 1+offW A B C y
def headL (K A B C:Int):List UInt8:=if K=0 then 77 :: (itoaK A++46 :: (itoaK B++46 :: itoaK C)) else if K=1 then 74 :: itoaK A else itoaK A
def tailL (X:Int):List UInt8:=if X=7200 then [] else 47 :: (clockL X).1
def textL (K A B C X:Int):List UInt8×Bool:=if rightR K A B C X=true then (headL K A B C++tailL X,true) else ([],false)
theorem itoaK_len (n:Int):(itoaK n).length≤21:=by
 unfold itoaK
 split
 ·have:=digsN_len 20 n.natAbs; simp; omega
 ·have:=digsN_len 20 n.toNat; omega
end Go.Proofs.YtcljiciefhabgaaDoor.Pl
end
section
set_option linter.unusedVariables false
set_option linter.unusedSimpArgs false
namespace Go.Proofs.YtcljiciefhabgaaDoor.Pl
open Go
theorem valL_snoc (a:List UInt8) (c:UInt8):valL (a++[c])=10 * valL a+(c.toNat - 48):=by simp [valL,List.foldl_append]
end Go.Proofs.YtcljiciefhabgaaDoor.Pl
end
section
set_option linter.unusedVariables false
set_option linter.unusedSimpArgs false
namespace Go.Proofs.YtcljiciefhabgaaDoor.Pl
open Go Go.Proofs.YtcljiciefhabgaaDoor.Eng
theorem ifT {c:Prop} [Decidable c] {a b:Prop} (h:c) (ha:a):if c then a else b:=by rw [if_pos h]; exact ha
theorem ifF {c:Prop} [Decidable c] {a b:Prop} (h:¬ c) (hb:b):if c then a else b:=by rw [if_neg h]; exact hb
theorem ifC {c:Prop} [Decidable c] {a b:Prop} (h1:c→a) (h2:¬ c→b):if c then a else b:=by
 by_cases h:c
 ·exact ifT h (h1 h)
 ·exact ifF h (h2 h)
theorem w64_in {n:Int} (h0:-9223372036854775808≤n) (h1:n≤9223372036854775807):w64 n=n:=by
 simp only [w64,IntKind.wrap,IntKind.bits,IntKind.signed]
 try simp
 try omega
theorem bAt_S (l:List UInt8) (i:Nat):Eng.bAt (S l) i=((l.getD i 0).toNat:Int):=rfl
theorem bAt0 (c:UInt8) (l:List UInt8):Eng.bAt (S (c :: l)) 0=(c.toNat:Int):=rfl
theorem lp_ind {α:Type} {F:(α→Prop)→α→Prop} (μ:α→Nat) (I:α→Prop) (h:∀ x,I x→∀ k:α→Prop,(∀ y,I y→μ y < μ x→k y)→F k x) {x:α} (hx:I x):Eng.lp F x:=by
 have key:∀ n x,I x→μ x < n→itrT F n x:=by
  intro n
  induction n with
  | zero=>intro x _ hn; omega
  | succ n ih=>intro x hx hn; exact h x hx _ fun y hy hlt=>ih y hy (by omega)
 exact ⟨μ x+1,key _ _ hx (Nat.lt_succ_self _)⟩
theorem lp_nat {α:Type} {F:(α→Prop)→α→Prop} (st:Nat→α) (N:Nat) (h:∀ n,n≤N→∀ k:α→Prop,(n < N→k (st (n+1)))→F k (st n)):Eng.lp F (st 0):=by
 have key:∀ d n,n+d=N→itrT F (d+1) (st n):=by
  intro d
  induction d with
  | zero=>intro n hn; exact h n (by omega) _ fun hlt=>by omega
  | succ d ih=>intro n hn; exact h n (by omega) _ fun hlt=>ih (n+1) (by omega)
 exact ⟨N+1,key N 0 (by omega)⟩
theorem lp_at {α:Type} {F:(α→Prop)→α→Prop} {x:α} (st:Nat→α) (N:Nat) (h0:x=st 0) (h:∀ n,n≤N→∀ k:α→Prop,(n < N→k (st (n+1)))→F k (st n)):Eng.lp F x:=by
 rw [h0]; exact lp_nat st N h
def nl (q:UInt8→Bool) (l:List UInt8):Nat:=(l.takeWhile fun c=>!q c).length
theorem nl_le (q:UInt8→Bool) (l:List UInt8):nl q l≤l.length:=by unfold nl; exact (List.takeWhile_sublist _).length_le
theorem nl_cons (q:UInt8→Bool) (c:UInt8) (l:List UInt8):nl q (c :: l)=if q c=true then 0 else nl q l+1:=by
 unfold nl; rw [List.takeWhile_cons]; cases q c <;> simp
theorem nl_of (q:UInt8→Bool):∀ (l:List UInt8) (k:Nat),k≤l.length→(∀ c∈l.take k,q c=false)→(∀ h:k < l.length,q l[k]=true)→nl q l=k
 | [],k,hk,_,_=>by simp at hk; subst hk; rfl
 | c :: l,0,_,_,h=>by
  have h0:q c=true:=h (by simp)
  rw [nl_cons,if_pos h0]
 | c :: l,k+1,hk,h1,h2=>by
  have hc:=h1 c (by simp)
  rw [nl_cons,if_neg (by rw [hc]; simp),nl_of q l k (by simpa using hk) (fun d hd=>h1 d (by rw [List.take_succ_cons]; exact .tail _ hd)) (fun h=>by have:=h2 (by simpa using h); simpa using this)]
theorem indexByte_nl (l:List UInt8) (c:UInt8):Lib.indexByte l c=if nl (· == c) l < l.length then (nl (· == c) l:Int) else -1:=by
 induction l with
 | nil=>rfl
 | cons b l ih =>
  rw [Lib.indexByte,nl_cons,ih]
  cases hb:(b == c)
  ·simp only [Bool.false_eq_true,if_false,List.length_cons]
   by_cases h:nl (· == c) l < l.length
   ·rw [if_pos h,if_neg (by simp),if_pos (by omega)]; omega
   ·rw [if_neg h,if_pos (by simp),if_neg (by omega)]
  ·simp
theorem decode_lo (l:List UInt8) (pos:Nat) (h:pos < l.length) (ha:l[pos].toNat < 128):Utf8.decode (S l) pos=(l[pos].toNat,1):=decode_ascii (S l) pos (by rw [S_size]; exact h) ha
theorem decode_hi (l:List UInt8) (pos:Nat) (h:pos < l.length) (ha:128≤l[pos].toNat):128≤(Utf8.decode (S l) pos).1∧1≤(Utf8.decode (S l) pos).2:=decode_high (S l) pos (by rw [S_size]; exact h) ha
end Go.Proofs.YtcljiciefhabgaaDoor.Pl
end
section
set_option linter.unusedVariables false
set_option linter.unusedSimpArgs false
namespace Go.Proofs.YtcljiciefhabgaaDoor.Pl
open Go Go.Proofs.YtcljiciefhabgaaDoor.Eng
abbrev W32:=BitVec 32
abbrev wi (x:W32):Int:=(x.toNat:Int)
abbrev bi (c:UInt8):Int:=(c.toNat:Int)
abbrev cw (x:W32):V:=.c (.int .u32 (wi x))
abbrev cb (c:UInt8):V:=.c (.int .u8 (bi c))
theorem wu32_in {n:Int} (h0:0≤n) (h1:n≤4294967295):wu32 n=n:=by
 simp only [wu32,IntKind.wrap,IntKind.bits,IntKind.signed]
 try simp
 try omega
theorem wu8_in {n:Int} (h0:0≤n) (h1:n≤255):wu8 n=n:=by
 simp only [wu8,IntKind.wrap,IntKind.bits,IntKind.signed]
 try simp
 try omega
theorem wu64_in {n:Int} (h0:0≤n) (h1:n≤18446744073709551615):wu64 n=n:=by
 simp only [wu64,IntKind.wrap,IntKind.bits,IntKind.signed]
 try simp
 try omega
theorem wu32_nat (n:Nat):wu32 (n:Int)=wi (BitVec.ofNat 32 n):=by
 simp only [wu32,wi,IntKind.wrap,IntKind.bits,IntKind.signed,BitVec.toNat_ofNat]
 simp
theorem wi_lt (x:W32):x.toNat < 4294967296:=x.isLt
theorem bi_lt (c:UInt8):c.toNat < 256:=c.toNat_lt
theorem wu32_wi (x:W32):wu32 (x.toNat:Int)=wi x:=wu32_in (by omega) (by have:=wi_lt x; omega)
theorem ofInt_wi (x:W32):BitVec.ofInt 32 (wi x)=x:=by
 apply BitVec.eq_of_toNat_eq
 rw [BitVec.toNat_ofInt]
 have:=wi_lt x
 have e:((2 ^ 32:Nat):Int)=4294967296:=by decide
 rw [e]
 unfold wi
 omega
theorem wi_add (x y:W32):wu32 (wi x+wi y)=wi (x+y):=by
 rw [show wi x+wi y=((x.toNat+y.toNat:Nat):Int) by simp [wi],wu32_nat]
 congr 1
theorem wi_shl (x:W32) (k:Nat):wu32 (wi x * 2 ^ k)=wi (x <<< k):=by
 rw [show wi x * 2 ^ k=((x.toNat * 2 ^ k:Nat):Int) by simp [wi],wu32_nat]
 congr 1
 apply BitVec.eq_of_toNat_eq
 simp [BitVec.toNat_shiftLeft,Nat.shiftLeft_eq]
theorem wi_shr (x:W32) (k:Nat):Int.fdiv (wi x) (2 ^ k)=wi (x >>> k):=by
 rw [Int.fdiv_eq_ediv_of_nonneg _ (by exact_mod_cast Nat.zero_le _)]
 unfold wi
 rw [BitVec.toNat_ushiftRight,Nat.shiftRight_eq_div_pow]
 exact_mod_cast rfl
def rotl (x:W32) (k:Nat):W32:=x <<< k ||| x >>> (32 - k)
theorem wi_lit (n:Nat) (h:n < 4294967296):(n:Int)=wi (BitVec.ofNat 32 n):=by
 unfold wi
 rw [BitVec.toNat_ofNat,Nat.mod_eq_of_lt (by omega)]
theorem wu32_bi (c:UInt8):wu32 (bi c)=wi (BitVec.ofNat 32 c.toNat):=by rw [wu32_nat]
def sched:Nat→List W32→List W32
 | 0,l=>l
 | n+1,l=>sched n (l++[rotl (l.getD (l.length - 3) 0 ^^^ l.getD (l.length - 8) 0 ^^^ l.getD (l.length - 14) 0 ^^^ l.getD (l.length - 16) 0) 1])
def next (l:List W32):List W32:=l++[rotl (l.getD (l.length - 3) 0 ^^^ l.getD (l.length - 8) 0 ^^^ l.getD (l.length - 14) 0 ^^^ l.getD (l.length - 16) 0) 1]
def word (b:List UInt8) (i:Nat):W32:=b.foldl (fun w c=>w <<< 8 ||| BitVec.ofNat 32 c.toNat) 0
def wordAt (b:List UInt8) (i:Nat):W32:=word ((b.drop (4 * i)).take 4) 0
def first (b:List UInt8) (n:Nat):List W32:=(List.range n).map (wordAt b)
def wordsN (b:List UInt8):Nat→List W32
 | 0=>first b 16
 | n+1=>next (wordsN b n)
theorem wordsN_len (b:List UInt8) (n:Nat):(wordsN b n).length=16+n:=by
 induction n with
 | zero=>simp [wordsN,first]
 | succ n ih=>simp [wordsN,next,ih]; omega
structure St5 where
 a:W32
 b:W32
 c:W32
 d:W32
 e:W32
def fAt (i:Nat) (b c d:W32):W32:=if i < 20 then d ^^^ (b &&& (c ^^^ d)) else if i < 40 then b ^^^ c ^^^ d else if i < 60 then (b &&& c) ||| (d &&& (b ||| c)) else b ^^^ c ^^^ d
def kAt (i:Nat):W32:=if i < 20 then 1518500249#32 else if i < 40 then 1859775393#32 else if i < 60 then 2400959708#32 else 3395469782#32
def stepS (s:St5) (f k w:W32):St5:=⟨rotl s.a 5+f+s.e+k+w,s.a,rotl s.b 30,s.c,s.d⟩
def roundsN (ws:List W32) (s:St5):Nat→St5
 | 0=>s
 | n+1=>let t:=roundsN ws s n; stepS t (fAt n t.b t.c t.d) (kAt n) (ws.getD n 0)
def addS (s t:St5):St5:=⟨s.a+t.a,s.b+t.b,s.c+t.c,s.d+t.d,s.e+t.e⟩
def blockL (s:St5) (b:List UInt8):St5:=addS (roundsN (wordsN b 64) s 80) s
def blocksN (l:List UInt8) (s:St5):Nat→St5
 | 0=>s
 | n+1=>blockL (blocksN l s n) ((l.drop (64 * n)).take 64)
def be64 (n:Nat):List UInt8:=(List.range 8).map fun i=>UInt8.ofNat (n / 2 ^ (8 * (7 - i)))
def padL (m:List UInt8):List UInt8:=m++[128]++List.replicate ((184 - (m.length+1) % 64) % 64) 0++be64 (8 * m.length)
def s0:St5:=⟨1732584193#32,4023233417#32,2562383102#32,271733878#32,3285377520#32⟩
def St5.at (s:St5) (i:Nat):W32:=match i with | 0=>s.a | 1=>s.b | 2=>s.c | 3=>s.d | _=>s.e
def sumS (m:List UInt8):St5:=blocksN (padL m) s0 ((padL m).length / 64)
def digest (m:List UInt8) (i:Nat):UInt8:=UInt8.ofNat (((sumS m).at (i / 4)).toNat / 2 ^ (24 - 8 * (i % 4)))
theorem padL_len (m:List UInt8):(padL m).length % 64=0:=by
 simp [padL,be64]
 omega
def wordsOf (d:Nat→UInt8) (j:Nat):W32:=word [d (4 * j),d (4 * j+1),d (4 * j+2),d (4 * j+3)] 0
def hexC (n:Nat):UInt8:=[48,49,50,51,52,53,54,55,56,57,97,98,99,100,101,102].getD n 0
def hexN (d:Nat→UInt8):Nat→List UInt8
 | 0=>[]
 | n+1=>hexN d n++[hexC ((d n).toNat / 16),hexC ((d n).toNat % 16)]
def agL (k:IntKind) (n:Nat) (f:Nat→Int):List V:=[.agg ((List.range n).map fun i=>.c (.int k (f i)))]
def updF (f:Nat→Int) (i:Nat) (x:Int):Nat→Int:=fun j=>if j=i then x else f j
theorem agL_get {k:IntKind} {n:Nat} {f:Nat→Int} {i:Nat} (h:i < n):getC (agL k n f) 0 i=some (.c (.int k (f i))):=by
 simp [agL,getC,V.cells,h]
theorem asI {k:IntKind} {n:Nat} {f:Nat→Int} {i:Nat} (h:i < n) {F:Prop} {K:Int→Prop} (hk:K (f i)):Eng.asInt k (getC (agL k n f) 0 i) F K:=by
 rw [agL_get h]
 simpa [Eng.asInt] using hk
theorem asL {k:IntKind} {n:Nat} {f:Nat→Int} {i:Nat} (h:i < n) {F:Prop} {K:Int→Prop} (hk:K (f i)):Eng.asInt k (((List.range n).map fun i=>V.c (.int k (f i)))[i]?) F K:=by
 simp [Eng.asInt,h,hk]
theorem agL_set {k:IntKind} {n:Nat} {f:Nat→Int} {i:Nat} {x:Int} (h:i < n):List.set (agL k n f) 0 (setE (List.getD (agL k n f) 0 V.bad) i [.c (.int k x)])=agL k n (updF f i x):=by
 simp only [agL,List.getD_cons_zero,setE,setL,List.set_cons_zero]
 congr 2
 apply List.ext_getElem?
 intro j
 rw [List.getElem?_set]
 by_cases hj:j < n
 ·by_cases e:i=j
  ·subst e; simp [updF,h]
  ·simp [e,hj,updF,Ne.symm e]
 ·have:¬ i=j:=by omega
  simp [this,hj]
theorem agL_len {k:IntKind} {n:Nat} {f:Nat→Int}:(agL k n f).length=1:=rfl
theorem agL_congr {k:IntKind} {n:Nat} {f g:Nat→Int} (h:∀ i,i < n→f i=g i):agL k n f=agL k n g:=by
 unfold agL
 congr 2
 apply List.map_congr_left
 intro i hi
 rw [h i (List.mem_range.1 hi)]
end Go.Proofs.YtcljiciefhabgaaDoor.Pl
end
section
set_option linter.unusedVariables false
set_option linter.unusedSimpArgs false
namespace Go.Proofs.YtcljiciefhabgaaDoor.Pl
open Go Go.Proofs.YtcljiciefhabgaaDoor.Eng
def splN (c:UInt8):Nat→List UInt8→List (List UInt8)
 | 0,l=>[l]
 | k+1,l=>if nl (· == c) l < l.length then l.take (nl (· == c) l) :: splN c k (l.drop (nl (· == c) l+1)) else [l]
def spl (c:UInt8):List UInt8→List (List UInt8)
 | []=>[[]]
 | b :: r=>if b == c then [] :: spl c r else match spl c r with
  | []=>[[b]]
  | h :: t=>(b :: h) :: t
theorem spl_ne (c:UInt8) (l:List UInt8):spl c l≠[]:=by
 cases l with
 | nil=>simp [spl]
 | cons b r =>
  rw [spl]; split
  ·simp
  ·split <;> simp
theorem spl_eq (c:UInt8):∀ l,spl c l=if nl (· == c) l < l.length then l.take (nl (· == c) l) :: spl c (l.drop (nl (· == c) l+1)) else [l]
 | []=>rfl
 | b :: r=>by
  rw [spl,nl_cons]
  cases hb:b == c
  ·simp only [Bool.false_eq_true,if_false,List.length_cons]
   rw [spl_eq c r]
   by_cases h:nl (· == c) r < r.length
   ·simp only [if_pos h]; rw [if_pos (by omega)]; simp
   ·simp only [if_neg h]; rw [if_neg (by omega)]
  ·simp
theorem count_nl (c:UInt8) (l:List UInt8) (h:nl (· == c) l < l.length):l.count c=(l.drop (nl (· == c) l+1)).count c+1:=by
 induction l with
 | nil=>simp at h
 | cons b r ih =>
  rw [nl_cons] at h ⊢
  cases hb:b == c
  ·rw [hb] at h
   simp only [Bool.false_eq_true,if_false,List.length_cons] at h ⊢
   rw [List.count_cons,hb,ih (by omega)]; simp
  ·rw [List.count_cons,hb]; simp
theorem splN_spl (c:UInt8):∀ (k:Nat) (l:List UInt8),l.count c≤k→splN c k l=spl c l
 | 0,l,h=>by
  rw [splN,spl_eq,if_neg]
  intro hh
  have:=count_nl c l hh
  omega
 | k+1,l,h=>by
  rw [splN,spl_eq]
  split
  ·rename_i hh
   have:=count_nl c l hh
   rw [splN_spl c k _ (by omega)]
  ·rfl
theorem spl_app (c:UInt8):∀ (a r:List UInt8),c∉a→spl c (a++c :: r)=a :: spl c r
 | [],r,_=>by rw [List.nil_append,spl]; simp
 | b :: a,r,h=>by
  have hb:(b == c)=false:=by
   simp only [beq_eq_false_iff_ne]; exact fun e=>h (e ▸ .head _)
  rw [List.cons_append,spl,hb,spl_app c a r (fun hh=>h (.tail _ hh))]; simp
theorem splN_len (c:UInt8):∀ (k:Nat) (l:List UInt8),(splN c k l).length≤k+1∧1≤(splN c k l).length∧∀ w∈splN c k l,w.length≤l.length
 | 0,l=>by simp [splN]
 | k+1,l=>by
  rw [splN]
  split
  ·obtain ⟨h1,h2,h3⟩:=splN_len c k (l.drop (nl (· == c) l+1))
   refine ⟨by simp; omega,by simp,fun w hw=>?_⟩
   cases hw with
   | head=>simp; omega
   | tail _ hw=>have:=h3 w hw; simp at this; omega
  ·refine ⟨by simp,by simp,fun w hw=>?_⟩
   simp at hw; rw [hw]; exact Nat.le_refl _
theorem spl_len (c:UInt8) (l:List UInt8):(spl c l).length≤l.length+1∧1≤(spl c l).length∧∀ w∈spl c l,w.length≤l.length:=by
 rw [← splN_spl c l.length l List.count_le_length]
 exact splN_len c _ l
def trimR (l:List UInt8):List UInt8:=if l.getLast? = some 13 then l.dropLast else l
def linesL (l:List UInt8):List (List UInt8):=(if (spl 10 l).getLast? = some [] then (spl 10 l).dropLast else spl 10 l).map trimR
theorem trimR_len (l:List UInt8):(trimR l).length≤l.length:=by unfold trimR; split <;> simp
theorem linesL_len (l:List UInt8):(linesL l).length≤l.length+1∧∀ w∈linesL l,w.length≤l.length:=by
 obtain ⟨h1,h2,h3⟩:=spl_len 10 l
 unfold linesL
 constructor
 ·split <;> simp <;> omega
 ·intro w hw
  obtain ⟨v,hv,rfl⟩:=List.mem_map.1 hw
  have hv':v∈spl 10 l:=by
   split at hv
   ·exact (List.dropLast_sublist _).subset hv
   ·exact hv
  have:=trimR_len v
  have:=h3 v hv'
  omega
def blankB (c:UInt8):Bool:=c == 32 || c == 9
def wd:List UInt8→List UInt8→List (List UInt8)
 | cur,[]=>if cur=[] then [] else [cur]
 | cur,c :: r=>if blankB c=true then (if cur=[] then wd [] r else cur :: wd [] r) else wd (cur++[c]) r
def wordsL (l:List UInt8):List (List UInt8):=wd [] l
theorem wd_blank (l:List UInt8):∀ cur,wd cur (l++[32])=wd cur l:=by
 induction l with
 | nil=>intro cur; simp [wd,blankB]
 | cons c r ih =>
  intro cur
  rw [List.cons_append,wd,wd]
  simp only [ih]
theorem wd_skip:∀ (a cur r:List UInt8),(∀ c∈a,blankB c=false)→wd cur (a++r)=wd (cur++a) r
 | [],cur,r,_=>by simp
 | c :: a,cur,r,h=>by
  rw [List.cons_append,wd,if_neg (by rw [h c (.head _)]; simp),wd_skip a _ r (fun d hd=>h d (.tail _ hd))]; simp
theorem wd_len:∀ (l cur:List UInt8),(wd cur l).length≤l.length+1∧∀ w∈wd cur l,w.length≤cur.length+l.length∧w≠[]
 | [],cur=>by
  rw [wd]; split
  ·simp
  ·rename_i h; simp [h]
 | c :: r,cur=>by
  rw [wd]
  split
  ·split
   ·obtain ⟨h1,h2⟩:=wd_len r []
    refine ⟨by simp; omega,fun w hw=>⟨by have:=(h2 w hw).1; simp at this ⊢; omega,(h2 w hw).2⟩⟩
   ·rename_i hc
    obtain ⟨h1,h2⟩:=wd_len r []
    refine ⟨by simp; omega,fun w hw=>?_⟩
    cases hw with
    | head=>exact ⟨by simp,hc⟩
    | tail _ hw=>exact ⟨by have:=(h2 w hw).1; simp at this ⊢; omega,(h2 w hw).2⟩
  ·obtain ⟨h1,h2⟩:=wd_len r (cur++[c])
   exact ⟨by simp; omega,fun w hw=>⟨by have:=(h2 w hw).1; simp at this ⊢; omega,(h2 w hw).2⟩⟩
def numL (l:List UInt8):Int×Bool:=if l≠[]∧l.all isDig=true∧valL l≤9223372036854775807 then ((valL l:Int),true) else (0,false)
def preB (n f:List UInt8):Bool:=n.take f.length == f
def two (l:List UInt8):Bool:=(numL l).2 && decide (l.length≤2)
abbrev LR:=Int×Int×Bool
structure Tb where
 ls:List LR
 has:Bool
 ex:Int
deriving DecidableEq
def eLR (l:LR):V:=.agg [.c (.int .i64 l.1),.c (.int .i64 l.2.1),.c (.bool l.2.2)]
def endD (n:Int):Bool:=decide (-719162≤n∧n≤2932896) && (dayP n == dim (yearP n) (monP n))
def wrongL (k:Nat) (l:LR) (ahead:Int):Int :=
 if 200≤k then 8 else if l.1 < 730∨2932896≤l.1 then 9 else if endD l.1=false then 5 else if l.2.1≠1∧l.2.1≠-1 then 6 else if l.1≤ahead then 4 else 0
def checkG:Nat→Int→List LR→Nat×Int×Int
 | k,ahead,[]=>(k,0,ahead)
 | k,ahead,l :: r=>if wrongL k l ahead≠0 then (k,wrongL k l ahead,ahead) else checkG (k+1) l.1 r
def expB (has:Bool) (ex ahead:Int):Int :=
 if has=true then (if ex < (if 63072000 > (ahead+1) * 86400 then 63072000 else (ahead+1) * 86400)∨253402300799 < ex then 9 else 0) else if ex≠0 then 9 else 0
def checkT (t:Tb):Nat×Int:=if (checkG 0 729 t.ls).2.1≠0 then ((checkG 0 729 t.ls).1,(checkG 0 729 t.ls).2.1) else (t.ls.length,expB t.has t.ex (checkG 0 729 t.ls).2.2)
def rightT (t:Tb):Bool:=(checkT t).2 == 0
def addT (t:Tb) (l:LR):Tb×Int:=if (checkT ⟨t.ls++[l],t.has,t.ex⟩).2≠0 then (t,(checkT ⟨t.ls++[l],t.has,t.ex⟩).2) else (⟨t.ls++[l],t.has,t.ex⟩,0)
structure Row where
 kind:Int
 y:Int
 m:Int
 d:Int
 sec:Int
 sign:List UInt8
 roll:Bool
structure Src where
 ls:List LR
 at':Int
 til:Int
def bareL (l:List UInt8):List UInt8:=l.take (nl (· == 35) l)
def tb0:Tb:=⟨[],false,0⟩
theorem decode_cont (l:List UInt8) (pos:Nat) (h:pos < l.length) (ha:128≤l[pos].toNat) :
  128≤(Utf8.decode (S l) pos).1∧1≤(Utf8.decode (S l) pos).2∧pos+(Utf8.decode (S l) pos).2≤l.length∧∀ c∈(l.drop pos).take (Utf8.decode (S l) pos).2,128≤c.toNat:=by
 obtain ⟨h1,h2⟩:=decode_hi l pos h ha
 refine ⟨h1,h2,?_⟩
 have g:∀ k (hk:pos+k < l.length),((S l).get! (pos+k)).toNat=l[pos+k].toNat:=fun k hk=>by
  simp [S,ByteArray.get!,hk]
 have one:pos+1≤l.length∧∀ c∈(l.drop pos).take 1,128≤c.toNat:=by
  refine ⟨h,fun c hc=>?_⟩
  rw [List.drop_eq_getElem_cons h,List.take_succ_cons,List.take_zero,List.mem_singleton] at hc
  rw [hc]; exact ha
 have more:∀ w,1≤w→(∀ k,1≤k→k < w→pos+k < l.length∧((S l).get! (pos+k)).toNat / 64=2)→pos+w≤l.length∧∀ c∈(l.drop pos).take w,128≤c.toNat:=fun w hw hk=>by
  have hl:pos+w≤l.length:=by
   by_cases e:w=1
   ·omega
   ·have:=(hk (w - 1) (by omega) (by omega)).1; omega
  refine ⟨hl,fun c hc=>?_⟩
  obtain ⟨i,hi⟩:=List.getElem?_of_mem hc
  rw [List.getElem?_take] at hi
  split at hi
  ·rename_i hiw
   rw [List.getElem?_drop,List.getElem?_eq_getElem (by omega)] at hi
   cases hi
   by_cases e:i=0
   ·subst e; exact ha
   ·obtain ⟨q1,q2⟩:=hk i (by omega) hiw
    rw [g i q1] at q2
    omega
  ·cases hi
 unfold Utf8.decode
 simp only [S_size]
 have c1:∀ k,(decide (pos+k < l.length) && ((S l).get! (pos+k)).toNat / 64 == 2)=true→pos+k < l.length∧((S l).get! (pos+k)).toNat / 64=2:=fun k hk=>by
  simpa using hk
 split
 ·exact one
 ·split
  ·rename_i hc
   simp only [Bool.and_eq_true] at hc
   split
   ·exact more 2 (by omega) fun k k1 k2=>by
     have:k=1:=by omega
     subst this; exact c1 1 (by simp only [Bool.and_eq_true]; exact hc.2)
   ·exact one
  ·split
   ·rename_i hc
    simp only [Bool.and_eq_true] at hc
    split
    ·exact more 3 (by omega) fun k k1 k2=>by
      rcases (show k=1∨k=2 by omega) with rfl | rfl
      ·exact c1 1 (by simp only [Bool.and_eq_true]; exact hc.1.2)
      ·exact c1 2 (by simp only [Bool.and_eq_true]; exact hc.2)
    ·exact one
   ·split
    ·rename_i hc
     simp only [Bool.and_eq_true] at hc
     split
     ·exact more 4 (by omega) fun k k1 k2=>by
       rcases (show k=1∨k=2∨k=3 by omega) with rfl | rfl | rfl
       ·exact c1 1 (by simp only [Bool.and_eq_true]; exact hc.1.1.2)
       ·exact c1 2 (by simp only [Bool.and_eq_true]; exact hc.1.2)
       ·exact c1 3 (by simp only [Bool.and_eq_true]; exact hc.2)
     ·exact one
    ·exact one
def WV (ws:List (List UInt8)):List V:=ws.map fun w=>.c (.string (S w))
theorem WV_len (ws:List (List UInt8)):(WV ws).length=ws.length:=by simp [WV]
theorem WV_app (a b:List (List UInt8)):WV (a++b)=WV a++WV b:=by simp [WV]
theorem asW {ws:List (List UInt8)} {i:Nat} (h:i < ws.length) {F:Prop} {K:ByteArray→Prop} (hk:K (S ws[i])):Eng.asStr (getC (WV ws) i 0) F K:=by
 have:getC (WV ws) i 0=some (.c (.string (S ws[i]))):=by simp [getC,WV,V.cells,h]
 rw [this]; simpa [Eng.asStr] using hk
theorem kS_nil (l:List UInt8):(ByteArray.toList (S l) == ByteArray.toList (ByteArray.mk #[]))=l.isEmpty:=by
 rw [S_toList,show ByteArray.toList (ByteArray.mk #[])=[] from S_toList []]
 cases l <;> rfl
theorem set_mid {α:Type} (a:List α) (x y:α) (b:List α):(a++y :: b).set a.length x=a++x :: b:=by
 induction a with
 | nil=>rfl
 | cons h t ih=>simp
theorem getD_mid {α:Type} (a:List α) (d y:α) (b:List α):(a++y :: b).getD a.length d=y:=by simp
def B8 (l:List UInt8):List V:=l.map fun b=>.c (.int .u8 b.toNat)
theorem B8_len (l:List UInt8):(B8 l).length=l.length:=by simp [B8]
theorem bytesV_S (l:List UInt8):Eng.bytesV (S l)=B8 l:=by simp [Eng.bytesV,B8]
theorem asB8 {l:List UInt8} {i:Nat} (h:i < l.length) {F:Prop} {K:Int→Prop} (hk:K (l[i].toNat:Int)):Eng.asInt .u8 (getC (B8 l) i 0) F K:=by
 have:getC (B8 l) i 0=some (.c (.int .u8 (l[i].toNat:Int))):=by simp [getC,B8,V.cells,h]
 rw [this]; simpa [Eng.asInt] using hk
theorem kS_eq (l m:List UInt8):(ByteArray.toList (S l) == ByteArray.toList (S m))=(l == m):=by rw [S_toList,S_toList]
theorem getD_in {α:Type} (l:List α) (i:Nat) (d:α) (h:i < l.length):l.getD i d=l[i]:=by simp [List.getD,h]
theorem asWd {ws:List (List UInt8)} {i:Nat} (h:i < ws.length) {F:Prop} {K:ByteArray→Prop} (hk:K (S (ws.getD i []))):Eng.asStr (getC (WV ws) i 0) F K:=by
 rw [getD_in _ _ _ h] at hk; exact asW h hk
theorem dneg {p:Prop} [Decidable p] (h:¬ p):¬ (decide p=true):=by simpa using h
def TLV (l:List LR):List V:=l.map eLR
theorem TLV_len (l:List LR):(TLV l).length=l.length:=by simp [TLV]
theorem asL1 {l:List LR} {i:Nat} (h:i < l.length) {F:Prop} {K:Int→Prop} (hk:K (l[i]).1):Eng.asInt .i64 (getC (TLV l) i 0) F K:=by
 have:getC (TLV l) i 0=some (.c (.int .i64 (l[i]).1)):=by simp [getC,TLV,eLR,V.cells,h]
 rw [this]; simpa [Eng.asInt] using hk
theorem asL2 {l:List LR} {i:Nat} (h:i < l.length) {F:Prop} {K:Int→Prop} (hk:K (l[i]).2.1):Eng.asInt .i64 (getC (TLV l) i 1) F K:=by
 have:getC (TLV l) i 1=some (.c (.int .i64 (l[i]).2.1)):=by simp [getC,TLV,eLR,V.cells,h]
 rw [this]; simpa [Eng.asInt] using hk
theorem asL3 {l:List LR} {i:Nat} (h:i < l.length) {F:Prop} {K:Bool→Prop} (hk:K (l[i]).2.2):Eng.asBool (getC (TLV l) i 2) F K:=by
 have:getC (TLV l) i 2=some (.c (.bool (l[i]).2.2)):=by simp [getC,TLV,eLR,V.cells,h]
 rw [this]; simpa [Eng.asBool] using hk
theorem numL_bd (l:List UInt8):0≤(numL l).1∧(numL l).1≤9223372036854775807:=by
 unfold numL; split
 ·rename_i h; simp only; omega
 ·simp
theorem wrongL_0 {k:Nat} {l:LR} {a:Int} (h:wrongL k l a=0):k < 200∧730≤l.1∧l.1 < 2932896∧endD l.1=true∧(l.2.1=1∨l.2.1=-1)∧a < l.1:=by
 unfold wrongL at h
 split at h; · omega
 split at h; · omega
 split at h; · omega
 split at h; · omega
 split at h; · omega
 rename_i h1 h2 h3 h4 h5
 refine ⟨by omega,by omega,by omega,by simpa using h3,by omega,by omega⟩
end Go.Proofs.YtcljiciefhabgaaDoor.Pl
end
section
set_option linter.unusedVariables false
set_option linter.unusedSimpArgs false
namespace Go.Proofs.YtcljiciefhabgaaDoor.Pl
open Go Go.Proofs.YtcljiciefhabgaaDoor.Eng
def joinT (ws:List (List UInt8)):List UInt8:=Lib.join ws [9]
def dd (n:Int):List UInt8:=[UInt8.ofNat (48+(n / 10 % 10).toNat),UInt8.ofNat (48+(n % 10).toNat)]
def hms (x:Int):List UInt8:=dd (x / 3600)++58 :: (dd (x / 60 % 60)++58 :: dd (x % 60))
theorem digsN_val:∀ (k u:Nat),u < 10 ^ (k+1)→(digsN (k+1) u).all isDig=true∧valL (digsN (k+1) u)=u∧digsN (k+1) u≠[]
 | k,u,h=>by
  rw [digsN]
  by_cases e:u < 10
  ·rw [if_pos e]
   have:(UInt8.ofNat (48+u)).toNat=48+u:=by simp; omega
   refine ⟨?_,?_,by simp⟩
   ·simp [isDig,this]; omega
   ·unfold valL; rw [List.foldl_cons,List.foldl_nil,this]; omega
  ·rw [if_neg e]
   cases k with
   | zero=>omega
   | succ k =>
    obtain ⟨h1,h2,h3⟩:=digsN_val k (u / 10) (by rw [Nat.pow_succ] at h; omega)
    have:(UInt8.ofNat (48+u % 10)).toNat=48+u % 10:=by simp; omega
    refine ⟨?_,?_,by simp⟩
    ·rw [List.all_append,h1]; simp [isDig,this]; omega
    ·rw [valL_snoc,h2,this]; omega
theorem itoa_num (n:Int) (h0:0≤n) (h1:n≤9223372036854775807):(itoaK n).all isDig=true∧valL (itoaK n)=n.toNat∧itoaK n≠[]:=by
 unfold itoaK
 rw [if_neg (by omega)]
 exact digsN_val 19 n.toNat (by omega)
theorem numL_itoa (n:Int) (h0:0≤n) (h1:n≤9223372036854775807):numL (itoaK n)=(n,true):=by
 obtain ⟨q1,q2,q3⟩:=itoa_num n h0 h1
 unfold numL
 rw [if_pos ⟨q3,q1,by omega⟩,q2,show ((n.toNat:Nat):Int)=n by omega]
def gw (w:List UInt8):Prop:=w≠[]∧∀ c∈w,blankB c=false∧c≠10∧c≠35∧c≠13
theorem gw_digs {w:List UInt8} (h:w.all isDig=true) (hn:w≠[]):gw w:=by
 refine ⟨hn,fun c hc=>?_⟩
 have:=List.all_eq_true.1 h c hc
 simp only [isDig,Bool.and_eq_true,decide_eq_true_eq] at this
 refine ⟨?_,?_,?_,?_⟩
 ·unfold blankB
  rw [Bool.or_eq_false_iff]
  constructor <;> (rw [beq_eq_false_iff_ne]; intro e; subst e; revert this; decide)
 all_goals (intro e; subst e; revert this; decide)
theorem gw_itoa (n:Int) (h0:0≤n) (h1:n≤9223372036854775807):gw (itoaK n):=by
 obtain ⟨q1,q2,q3⟩:=itoa_num n h0 h1
 exact gw_digs q1 q3
theorem join_cons (w v:List UInt8) (r:List (List UInt8)):joinT (w :: v :: r)=w++9 :: joinT (v :: r):=by
 simp [joinT,Lib.join,List.intercalate,List.intersperse]
theorem join_one (w:List UInt8):joinT [w]=w:=by simp [joinT,Lib.join,List.intercalate,List.intersperse]
theorem words_join:∀ (ws:List (List UInt8)),ws≠[]→(∀ w∈ws,gw w)→wordsL (joinT ws)=ws
 | [],h,_=>absurd rfl h
 | [w],_,h=>by
  obtain ⟨h1,h2⟩:=h w (.head _)
  rw [join_one]
  have:=wd_skip w [] [] (fun c hc=>(h2 c hc).1)
  rw [List.append_nil,List.nil_append] at this
  unfold wordsL
  rw [this,wd,if_neg h1]
 | w :: v :: r,_,h=>by
  obtain ⟨h1,h2⟩:=h w (.head _)
  have ih:=words_join (v :: r) (by simp) (fun x hx=>h x (.tail _ hx))
  unfold wordsL at ih ⊢
  rw [join_cons,wd_skip w [] _ (fun c hc=>(h2 c hc).1),List.nil_append,wd,if_pos (by rfl),if_neg h1,ih]
theorem join_mem:∀ (ws:List (List UInt8)) (c:UInt8),c∈joinT ws→c=9∨∃ w∈ws,c∈w
 | [],c,h=>by simp [joinT,Lib.join,List.intercalate,List.intersperse] at h
 | [w],c,h=>by rw [join_one] at h; exact .inr ⟨w,.head _,h⟩
 | w :: v :: r,c,h=>by
  rw [join_cons,List.mem_append,List.mem_cons] at h
  rcases h with h | h | h
  ·exact .inr ⟨w,.head _,h⟩
  ·exact .inl h
  ·rcases join_mem (v :: r) c h with h | ⟨x,hx,hc⟩
   ·exact .inl h
   ·exact .inr ⟨x,.tail _ hx,hc⟩
theorem join_not {ws:List (List UInt8)} (h:∀ w∈ws,gw w):(10:UInt8)∉joinT ws∧(13:UInt8)∉joinT ws∧(35:UInt8)∉joinT ws:=by
 have key:∀ c:UInt8,c=10∨c=13∨c=35→c∉joinT ws:=fun c hc hm=>by
  rcases join_mem ws c hm with h9 | ⟨w,hw,hcw⟩
  ·subst h9; revert hc; decide
  ·obtain ⟨_,q2,q3,q4⟩:=(h w hw).2 c hcw
   rcases hc with rfl | rfl | rfl
   ·exact q2 rfl
   ·exact q4 rfl
   ·exact q3 rfl
 exact ⟨key 10 (.inl rfl),key 13 (.inr (.inl rfl)),key 35 (.inr (.inr rfl))⟩
theorem spl_flat:∀ (xs:List (List UInt8)),(∀ x∈xs,(10:UInt8)∉x)→spl 10 (xs.map (·++[10])).flatten=xs++[[]]
 | [],_=>rfl
 | x :: r,h=>by
  rw [List.map_cons,List.flatten_cons,List.append_assoc,List.singleton_append,spl_app 10 x _ (h x (.head _)),spl_flat r (fun y hy=>h y (.tail _ hy))]; rfl
theorem trimR_id {l:List UInt8} (h:(13:UInt8)∉l):trimR l=l:=by
 unfold trimR
 rw [if_neg]
 intro hh
 exact h (List.mem_of_getLast? hh)
theorem lines_flat (xs:List (List UInt8)) (h:∀ x∈xs,(10:UInt8)∉x):linesL (xs.map (·++[10])).flatten=xs.map trimR:=by
 unfold linesL
 rw [spl_flat xs h]
 simp
theorem map_id_of {α:Type} {f:α→α}:∀ (l:List α),(∀ x∈l,f x=x)→l.map f=l
 | [],_=>rfl
 | x :: r,h=>by rw [List.map_cons,h x (.head _),map_id_of r fun y hy=>h y (.tail _ hy)]
theorem bare_id {l:List UInt8} (h:(35:UInt8)∉l):bareL l=l:=by
 unfold bareL
 have:nl (· == (35:UInt8)) l=l.length:=nl_of _ l l.length (Nat.le_refl _) (fun c hc=>by
  rw [List.take_length] at hc
  simp only [beq_eq_false_iff_ne]; intro e; subst e; exact h hc) (fun hh=>absurd hh (Nat.lt_irrefl _))
 rw [this,List.take_length]
theorem checkG_app:∀ (p q:List LR) (k:Nat) (a:Int),(checkG k a (p++q)).2.1=0→(checkG k a p).2.1=0
 | [],q,k,a,h=>rfl
 | l :: p,q,k,a,h=>by
  rw [List.cons_append,checkG] at h
  rw [checkG]
  split at h
  ·rename_i hw; exact absurd h hw
  ·rename_i hw; rw [if_neg hw]; exact checkG_app p q _ _ h
theorem checkG_all:∀ (p:List LR) (k:Nat) (a:Int),(checkG k a p).2.1=0→∀ l∈p,730≤l.1∧l.1 < 2932896∧(l.2.1=1∨l.2.1=-1)
 | [],k,a,h,l,hl=>by cases hl
 | x :: p,k,a,h,l,hl=>by
  rw [checkG] at h
  split at h
  ·rename_i hw; exact absurd h hw
  ·rename_i hw
   have hw:wrongL k x a=0:=by omega
   obtain ⟨_,q1,q2,_,q3,_⟩:=wrongL_0 hw
   cases hl with
   | head=>exact ⟨q1,q2,q3⟩
   | tail _ hl=>exact checkG_all p _ _ h l hl
theorem right_0 {t:Tb} (h:rightT t=true):(checkG 0 729 t.ls).2.1=0∧expB t.has t.ex (checkG 0 729 t.ls).2.2=0:=by
 unfold rightT checkT at h
 rw [beq_iff_eq] at h
 split at h
 ·rename_i hw; exact absurd h hw
 ·rename_i hw; exact ⟨by omega,h⟩
theorem right_of {t:Tb} (h1:(checkG 0 729 t.ls).2.1=0) (h2:expB t.has t.ex (checkG 0 729 t.ls).2.2=0):rightT t=true:=by
 unfold rightT checkT
 rw [if_neg (by omega),h2]; rfl
theorem expB_no (a:Int):expB false 0 a=0:=rfl
theorem right_ex {t:Tb} (h:rightT t=true):(t.has=false→t.ex=0)∧(t.has=true→63072000≤t.ex∧t.ex≤253402300799):=by
 obtain ⟨h1,h2⟩:=right_0 h
 unfold expB at h2
 constructor
 ·intro hh
  rw [hh,if_neg (by simp)] at h2
  split at h2 <;> omega
 ·intro hh
  rw [hh,if_pos rfl] at h2
  split at h2
  ·omega
  ·split at h2 <;> omega
theorem addT_ok {ls:List LR} {l:LR} (h:(checkG 0 729 (ls++[l])).2.1=0):addT ⟨ls,false,0⟩ l=(⟨ls++[l],false,0⟩,0):=by
 have:(checkT ⟨ls++[l],false,0⟩).2=0:=by
  unfold checkT
  rw [if_neg (fun hn=>hn h)]
  exact expB_no (checkG 0 729 (ls++[l])).2.2
 unfold addT
 rw [if_neg (fun hn=>hn this)]
theorem addT_good {ls:List LR} {l:LR} (h:(checkG 0 729 ls).2.1=0):(checkG 0 729 (addT ⟨ls,false,0⟩ l).1.ls).2.1=0:=by
 unfold addT
 split
 ·exact h
 ·rename_i hc
  unfold checkT at hc
  split at hc
  ·rename_i hw; exact absurd hw (by omega)
  ·rename_i hw; dsimp only at hw ⊢; omega
end Go.Proofs.YtcljiciefhabgaaDoor.Pl
end
section
set_option linter.unusedVariables false
set_option linter.unusedSimpArgs false
namespace Go.Proofs.YtcljiciefhabgaaDoor.Pl
open Go Go.Proofs.YtcljiciefhabgaaDoor.Eng
def isHex (c:UInt8):Bool:=(48≤c.toNat && c.toNat≤57) || (97≤c.toNat && c.toNat≤102) || (65≤c.toNat && c.toNat≤70)
def hexD (c:UInt8):Nat:=if c.toNat≤57 then c.toNat - 48 else if 97≤c.toNat then c.toNat - 87 else c.toNat - 55
def hexV (l:List UInt8):Nat:=l.foldl (fun n c=>16 * n+hexD c) 0
def wordOk (l:List UInt8):Bool:=decide (1≤l.length∧l.length≤8) && l.all isHex
def hashOk (s:List UInt8):Bool:=(wordsL s).length == 5 && (wordsL s).all wordOk
def hashW (s:List UInt8) (k:Nat):W32:=if hashOk s=true then BitVec.ofNat 32 (hexV ((wordsL s).getD k [])) else 0
def dW (w:Nat→W32) (k:Nat):UInt8:=UInt8.ofNat ((w (k / 4)).toNat / 2 ^ (24 - 8 * (k % 4)))
def partW (w:Nat→W32) (k:Nat):List UInt8:=((hexN (dW w) 20).drop (8 * k)).take 8
def ntextL (w:Nat→W32):List UInt8:=Lib.join ((List.range 5).map (partW w)) [32]
structure LW where
 kd:List UInt8
 ws:List (List UInt8)
 ns:List Int
 ok:Bool
abbrev kStamp:List UInt8:=[35,36]
abbrev kExp:List UInt8:=[35,64]
abbrev kHash:List UInt8:=[35,104]
abbrev kRem:List UInt8:=[35]
def numsR (kd s:List UInt8) (many:Nat):LW :=
 ⟨kd,if ((wordsL s).all fun w=>(numL w).2)=true∧(wordsL s).length=many then wordsL s else [],(wordsL s).map fun w=>(numL w).1,((wordsL s).all fun w=>(numL w).2) && (wordsL s).length == many⟩
def readL (s:List UInt8):LW :=
 if wordsL s=[] then ⟨kRem,[],[],true⟩
 else if s.take 2=kStamp∨s.take 2=kExp then numsR (s.take 2) (s.drop 2) 1
 else if s.take 2=kHash then ⟨kHash,[],[],hashOk (s.drop 2)⟩
 else if preB ((wordsL s).getD 0 []) kRem=true then ⟨kRem,[],[],true⟩
 else numsR [] (bareL s) 2
def kindsL:List (List UInt8):=[kStamp,kExp,[]]
def hashedK (kd:List UInt8) (R:List LW):List UInt8:=(R.map fun r=>if r.kd=kd then r.ws.flatten else []).flatten
def hashedL (R:List LW):List UInt8:=hashedK kStamp R++(hashedK kExp R++hashedK [] R)
def rowsL (s:List UInt8):List LW:=(linesL s).map readL
def hashL (s:List UInt8):Nat→UInt8:=digest (hashedL (rowsL s))
structure LS where
 ls:List LR
 off:Int
 bg:Bool
 a1:Int
 a2:Int
 a3:Int
def ls0:LS:=⟨[],0,false,0,0,0⟩
def dataL (s:LS) (n o:Int):LS×Int :=
 if s.bg=false then (if n - 2208988800≠63072000∨o≠10 then (s,9) else (⟨s.ls,o,true,s.a1,s.a2,s.a3⟩,0))
 else if (n - 2208988800) % 86400≠0 then (s,5)
 else if o - s.off≠1∧o - s.off≠-1 then (s,6)
 else (⟨(addT ⟨s.ls,false,0⟩ ((n - 2208988800) / 86400 - 1,o - s.off,false)).1.ls,o,true,s.a1,s.a2,s.a3⟩,(addT ⟨s.ls,false,0⟩ ((n - 2208988800) / 86400 - 1,o - s.off,false)).2)
def lineL (s:LS) (no:Nat) (r:LW):LS×Int :=
 if r.ok=false then (s,2)
 else if r.kd=kStamp then (if s.a1 > 0 then (s,2) else (⟨s.ls,s.off,s.bg,no,s.a2,s.a3⟩,0))
 else if r.kd=kExp then (if s.a2 > 0 then (s,2) else (⟨s.ls,s.off,s.bg,s.a1,no,s.a3⟩,0))
 else if r.kd=kHash then (if s.a3 > 0 then (s,2) else (⟨s.ls,s.off,s.bg,s.a1,s.a2,no⟩,0))
 else if r.kd=[] then dataL s (r.ns.getD 0 0) (r.ns.getD 1 0)
 else (s,0)
def goL:Nat→LS→List LW→LS×Int×Int
 | _,s,[]=>(s,0,0)
 | k,s,r :: rest=>if (lineL s (k+1) r).2≠0 then (s,(k:Int)+1,(lineL s (k+1) r).2) else goL (k+1) (lineL s (k+1) r).1 rest
def lw0:LW:=⟨[],[],[],false⟩
def same5L (w v:Nat→W32):Bool:=w 0 == v 0 && w 1 == v 1 && w 2 == v 2 && w 3 == v 3 && w 4 == v 4
def endL (L:List (List UInt8)) (R:List LW) (g:LS):Tb×Int×Int :=
 if g.bg=false then (tb0,(R.length:Int)+1,2)
 else if g.a2 > 0∧rightT ⟨g.ls,true,(R.getD (g.a2.toNat - 1) lw0).ns.getD 0 0 - 2208988800⟩=false then (tb0,g.a2,9)
 else if g.a3 > 0∧same5L (hashW ((L.getD (g.a3.toNat - 1) []).drop 2)) (wordsOf (digest (hashedL R)))=false then (tb0,g.a3,3)
 else (if g.a2 > 0 then ⟨g.ls,true,(R.getD (g.a2.toNat - 1) lw0).ns.getD 0 0 - 2208988800⟩ else ⟨g.ls,false,0⟩,0,0)
def lparseL (s:List UInt8):Tb×Int×Int :=
 if (goL 0 ls0 (rowsL s)).2.2≠0 then (tb0,(goL 0 ls0 (rowsL s)).2.1,(goL 0 ls0 (rowsL s)).2.2) else endL (linesL s) (rowsL s) (goL 0 ls0 (rowsL s)).1
def lpairL (p o:Int):List UInt8:=itoaK (p+2208988800)++9 :: itoaK o
def offsL:Int→List LR→List (List UInt8)
 | _,[]=>[]
 | o,l :: r=>lpairL ((l.1+1) * 86400) (o+l.2.1) :: offsL (o+l.2.1) r
def offOk:Int→List LR→Bool
 | _,[]=>true
 | o,l :: r=>!l.2.2 && decide (0≤o+l.2.1) && offOk (o+l.2.1) r
def ahead (t:Tb) (wh:Int):List (List UInt8):=(kStamp++9 :: itoaK wh) :: ((if t.has=true then [kExp++9 :: itoaK (t.ex+2208988800)] else [])++lpairL 63072000 10 :: offsL 10 t.ls)
def textOf (ls:List (List UInt8)):List UInt8:=(ls.map (·++[10])).flatten
def ltextB (t:Tb) (wh:Int):List UInt8:=textOf (ahead t wh)++(kHash++9 :: ntextL (wordsOf (hashL (textOf (ahead t wh)))))++[10]
def ltextL (t:Tb) (wh:Int):List UInt8×Bool:=if rightT t=true∧0≤wh∧offOk 10 t.ls=true then (ltextB t wh,true) else ([],false)
end Go.Proofs.YtcljiciefhabgaaDoor.Pl
end
section
set_option linter.unusedVariables false
set_option linter.unusedSimpArgs false
namespace Go.Proofs.YtcljiciefhabgaaDoor.Pl
open Go Go.Proofs.YtcljiciefhabgaaDoor.Eng
theorem hexC_hex:∀ a:Fin 16,isHex (hexC a.val)=true∧hexD (hexC a.val)=a.val∧blankB (hexC a.val)=false∧hexC a.val≠10∧hexC a.val≠13∧hexC a.val≠35:=by decide
theorem hexC_ok (n:Nat) (h:n < 16):isHex (hexC n)=true∧hexD (hexC n)=n∧blankB (hexC n)=false∧hexC n≠10∧hexC n≠13∧hexC n≠35:=hexC_hex ⟨n,h⟩
theorem hexN_all (d:Nat→UInt8):∀ n,∀ c∈hexN d n,∃ a,a < 16∧c=hexC a
 | 0,c,h=>by cases h
 | n+1,c,h=>by
  have hl:=(d n).toNat_lt
  rw [show hexN d (n+1)=hexN d n++[hexC ((d n).toNat / 16),hexC ((d n).toNat % 16)] from rfl,List.mem_append] at h
  rcases h with h | h
  ·exact hexN_all d n c h
  ·simp only [List.mem_cons,List.not_mem_nil,or_false] at h
   rcases h with rfl | rfl
   ·exact ⟨_,by omega,rfl⟩
   ·exact ⟨_,by omega,rfl⟩
theorem hexN_len' (d:Nat→UInt8):∀ n,(hexN d n).length=2 * n
 | 0=>rfl
 | n+1=>by
  rw [show hexN d (n+1)=hexN d n++[hexC ((d n).toNat / 16),hexC ((d n).toNat % 16)] from rfl,List.length_append,hexN_len' d n]; simp; omega
theorem partW_len (w:Nat→W32) (k:Nat) (h:k < 5):(partW w k).length=8:=by
 unfold partW; rw [List.length_take,List.length_drop,hexN_len']; omega
theorem partW_mem (w:Nat→W32) (k:Nat):∀ c∈partW w k,∃ a,a < 16∧c=hexC a:=fun c h=>hexN_all _ 20 c (List.mem_of_mem_drop (List.mem_of_mem_take h))
theorem part_eq (w:Nat→W32) (k:Nat) (h:k < 5):partW w k=[hexC ((dW w (4 * k)).toNat / 16),hexC ((dW w (4 * k)).toNat % 16),hexC ((dW w (4 * k+1)).toNat / 16),hexC ((dW w (4 * k+1)).toNat % 16),hexC ((dW w (4 * k+2)).toNat / 16),hexC ((dW w (4 * k+2)).toNat % 16),hexC ((dW w (4 * k+3)).toNat / 16),hexC ((dW w (4 * k+3)).toNat % 16)]:=by
 exact match k,h with
 | 0,_=>by kernel_rfl
 | 1,_=>by kernel_rfl
 | 2,_=>by kernel_rfl
 | 3,_=>by kernel_rfl
 | 4,_=>by kernel_rfl
 | n+5,h=>by omega
theorem dW_val (w:Nat→W32) (k j:Nat) (hj:j < 4):(dW w (4 * k+j)).toNat=(w k).toNat / 2 ^ (24 - 8 * j) % 256:=by
 unfold dW
 rw [UInt8.toNat_ofNat',show (4 * k+j) / 4=k by omega,show (4 * k+j) % 4=j by omega]
theorem hexV_part (w:Nat→W32) (k:Nat) (h:k < 5):hexV (partW w k)=(w k).toNat:=by
 have hw:=(w k).isLt
 have e0:(dW w (4 * k)).toNat=(w k).toNat / 16777216 % 256:=dW_val w k 0 (by omega)
 have e1:(dW w (4 * k+1)).toNat=(w k).toNat / 65536 % 256:=dW_val w k 1 (by omega)
 have e2:(dW w (4 * k+2)).toNat=(w k).toNat / 256 % 256:=dW_val w k 2 (by omega)
 have e3:(dW w (4 * k+3)).toNat=(w k).toNat / 1 % 256:=dW_val w k 3 (by omega)
 rw [part_eq w k h,e0,e1,e2,e3]
 unfold hexV
 simp only [List.foldl_cons,List.foldl_nil]
 rw [(hexC_ok _ (by omega)).2.1,(hexC_ok _ (by omega)).2.1,(hexC_ok _ (by omega)).2.1,(hexC_ok _ (by omega)).2.1,(hexC_ok _ (by omega)).2.1,(hexC_ok _ (by omega)).2.1,(hexC_ok _ (by omega)).2.1,(hexC_ok _ (by omega)).2.1]
 omega
theorem ntext_eq (w:Nat→W32):ntextL w=partW w 0++32 :: (partW w 1++32 :: (partW w 2++32 :: (partW w 3++32 :: partW w 4))):=by
 unfold ntextL
 rw [show (List.range 5).map (partW w)=[partW w 0,partW w 1,partW w 2,partW w 3,partW w 4] from rfl]
 simp [Lib.join,List.intercalate,List.intersperse]
theorem part_blank (w:Nat→W32) (k:Nat):∀ c∈partW w k,blankB c=false:=fun c h=>by
 obtain ⟨a,ha,rfl⟩:=partW_mem w k c h
 exact (hexC_ok a ha).2.2.1
theorem wd_one (a r:List UInt8) (h:∀ c∈a,blankB c=false) (hne:a≠[]):wd [] (a++32 :: r)=a :: wd [] r:=by
 rw [wd_skip a [] _ h,List.nil_append,wd,if_pos (by rfl),if_neg hne]
theorem words_hash (w:Nat→W32):wordsL (9 :: ntextL w)=[partW w 0,partW w 1,partW w 2,partW w 3,partW w 4]:=by
 have ne:∀ k,k < 5→partW w k≠[]:=fun k hk q=>by have:=partW_len w k hk; rw [q] at this; cases this
 unfold wordsL
 rw [wd,if_pos (by rfl),if_pos rfl,ntext_eq,wd_one _ _ (part_blank w 0) (ne 0 (by omega)),wd_one _ _ (part_blank w 1) (ne 1 (by omega)),wd_one _ _ (part_blank w 2) (ne 2 (by omega)),wd_one _ _ (part_blank w 3) (ne 3 (by omega))]
 have:=wd_skip (partW w 4) [] [] (part_blank w 4)
 rw [List.append_nil,List.nil_append] at this
 rw [this,wd,if_neg (ne 4 (by omega))]
theorem word_part (w:Nat→W32) (k:Nat) (h:k < 5):wordOk (partW w k)=true:=by
 unfold wordOk
 rw [partW_len w k h,Bool.and_eq_true]
 refine ⟨by decide,List.all_eq_true.2 fun c hc=>?_⟩
 obtain ⟨a,ha,rfl⟩:=partW_mem w k c hc
 exact (hexC_ok a ha).1
theorem getD5 (f:Nat→List UInt8) (k:Nat) (h:k < 5):[f 0,f 1,f 2,f 3,f 4].getD k []=f k:=by
 match k,h with
 | 0,_=>rfl
 | 1,_=>rfl
 | 2,_=>rfl
 | 3,_=>rfl
 | 4,_=>rfl
 | n+5,h=>omega
theorem hash_text (w:Nat→W32):hashOk (9 :: ntextL w)=true∧∀ k,k < 5→hashW (9 :: ntextL w) k=w k:=by
 have ok:hashOk (9 :: ntextL w)=true:=by
  unfold hashOk
  rw [words_hash]
  simp only [List.all_cons,List.all_nil,word_part w 0 (by omega),word_part w 1 (by omega),word_part w 2 (by omega),word_part w 3 (by omega),word_part w 4 (by omega)]
  rfl
 refine ⟨ok,fun k hk=>?_⟩
 unfold hashW
 rw [if_pos ok,words_hash]
 have e:=getD5 (partW w) k hk
 rw [e,hexV_part w k hk]
 exact BitVec.ofNat_toNat ..
theorem same5_of {w v:Nat→W32} (h:∀ k,k < 5→w k=v k):same5L w v=true:=by
 unfold same5L
 rw [h 0 (by omega),h 1 (by omega),h 2 (by omega),h 3 (by omega),h 4 (by omega)]; simp
theorem ntext_no (w:Nat→W32) (c:UInt8) (hc:c=10∨c=13∨c=35):c∉ntextL w:=fun hm=>by
 have hp:∀ k,c∉partW w k:=fun k q=>by
  obtain ⟨a,ha,e⟩:=partW_mem w k c q
  obtain ⟨_,_,_,n1,n2,n3⟩:=hexC_ok a ha
  rcases hc with rfl | rfl | rfl
  ·exact n1 e.symm
  ·exact n2 e.symm
  ·exact n3 e.symm
 have h32:c≠32:=by rcases hc with rfl | rfl | rfl <;> decide
 rw [ntext_eq] at hm
 simp only [List.mem_append,List.mem_cons] at hm
 rcases hm with hm | hm | hm | hm | hm | hm | hm | hm | hm
 ·exact hp 0 hm
 ·exact h32 hm
 ·exact hp 1 hm
 ·exact h32 hm
 ·exact hp 2 hm
 ·exact h32 hm
 ·exact hp 3 hm
 ·exact h32 hm
 ·exact hp 4 hm
end Go.Proofs.YtcljiciefhabgaaDoor.Pl
end
