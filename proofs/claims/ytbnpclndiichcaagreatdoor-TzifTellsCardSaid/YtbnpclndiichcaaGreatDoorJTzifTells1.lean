/- What the functions come to in plain data, with proofs, and what that answers. -/
import Derived.Test.YtbnpclndiichcaaGreatDoorJTzifTells0
import Derived.Lib.Strings
import Derived.Lib.Atoi
import Derived.Laws.Concat
import Derived.Laws.RangeAny
import Derived.Lib.Bytealg
import Derived.Lib.Join
section
set_option linter.unusedVariables false
set_option linter.unusedSimpArgs false
namespace Go.Proofs.YtbnpclndiichcaaGreatDoor
open Go Go.Proofs.YtbnpclndiichcaaGreatDoor.Eng
set_option maxRecDepth 100000
set_option maxHeartbeats 4000000
variable {G:Gs}
abbrev Tq1m:Type:=uQ58→((List Eng.V)→Bool→Bool→Prop)→Prop
def Lq1m_0 (K:(List Eng.V)→Bool→Bool→Prop):(uQ101→Prop)→uQ101→Prop:=fun k1 x2 =>
 (if decide (x2.1.2.2.2.1 < (↑(List.length x2.2.1.1):Int)) then
 (if 0≤x2.1.2.2.2.1∧x2.1.2.2.2.1 < (↑(List.length x2.2.1.1):Int) then
 (Eng.asStr (Eng.getC x2.2.1.1 (Int.toNat x2.1.2.2.2.1) (2:Nat)) False fun t3 =>
 (if Eng.roomOk (List.length x2.2.2.1+List.length [Eng.V.c (Value.string t3)]) (16:Nat) then
 k1 (((),(),(),w64 (x2.1.2.2.2.1+1),()),x2.2.1,x2.2.2.1++[Eng.V.c (Value.string t3)],())
 else
 False))
 else
 False)
 else
 K x2.2.2.1 true false)
def Lq1m_0p:Lp:=⟨30,[.trim 30,.fat 3 1 416,.trim 30],upT102,upH103,0⟩
def Yq1m (a0:uQ58) (K:(List Eng.V)→Bool→Bool→Prop):Prop :=
 lp (Lq1m_0 K) (((),(),(),0,()),a0,[],())
def Xq1m:Tq1m:=Yq1m
def Jq1m (X:Tq1m):Inst:=mkI 104 upL74 .nil upL4 upH5 X
def Iq1m:Inst:=Jq1m Xq1m
theorem Eq1m:EqF Tryz.prog 22 gives Tryz.f104 [] [Lq1m_0p] (Jq1m (Yq1m)):=fun x y K=>by kernel_rfl
theorem Iq1m_ok:InstOk Tryz.prog G.1 Iq1m:=iok (gives:=gives) [Lq1m_0p] okNil 22 follows Tryz.func104 (by kernel_rfl) (fun x=>by kernel_rfl) (Eq1m)
abbrev Tq1s:Type:=ByteArray→(Bool→Prop)→Prop
def Lq1s_0 (K:Bool→Prop):(uQ104→Prop)→uQ104→Prop:=fun k1 x2 =>
 (if decide (x2.1.2.2.1 < (↑(ByteArray.size x2.1.1):Int)) then
 (if 0≤x2.1.2.2.1∧x2.1.2.2.1 < (↑(ByteArray.size x2.1.1):Int) then
 (if decide (Eng.bAt x2.1.1 (Int.toNat x2.1.2.2.1)≥97) then
 (if decide (Eng.bAt x2.1.1 (Int.toNat x2.1.2.2.1)≤122) then
 k1 ((x2.1.1,x2.1.2.1,w64 (x2.1.2.2.1+1),()),())
 else
 (if decide (Eng.bAt x2.1.1 (Int.toNat x2.1.2.2.1)≥65) then
 (if (!decide (Eng.bAt x2.1.1 (Int.toNat x2.1.2.2.1)≤90)) then
 (if decide (Eng.bAt x2.1.1 (Int.toNat x2.1.2.2.1) < 48) then
 (if (Eng.bAt x2.1.1 (Int.toNat x2.1.2.2.1) != 43) then
 (if (Eng.bAt x2.1.1 (Int.toNat x2.1.2.2.1) != 45) then
 K false
 else
 k1 ((x2.1.1,x2.1.2.1,w64 (x2.1.2.2.1+1),()),()))
 else
 k1 ((x2.1.1,x2.1.2.1,w64 (x2.1.2.2.1+1),()),()))
 else
 (if decide (Eng.bAt x2.1.1 (Int.toNat x2.1.2.2.1) > 57) then
 (if (Eng.bAt x2.1.1 (Int.toNat x2.1.2.2.1) != 43) then
 (if (Eng.bAt x2.1.1 (Int.toNat x2.1.2.2.1) != 45) then
 K false
 else
 k1 ((x2.1.1,x2.1.2.1,w64 (x2.1.2.2.1+1),()),()))
 else
 k1 ((x2.1.1,x2.1.2.1,w64 (x2.1.2.2.1+1),()),()))
 else
 k1 ((x2.1.1,x2.1.2.1,w64 (x2.1.2.2.1+1),()),())))
 else
 k1 ((x2.1.1,x2.1.2.1,w64 (x2.1.2.2.1+1),()),()))
 else
 (if decide (Eng.bAt x2.1.1 (Int.toNat x2.1.2.2.1) < 48) then
 (if (Eng.bAt x2.1.1 (Int.toNat x2.1.2.2.1) != 43) then
 (if (Eng.bAt x2.1.1 (Int.toNat x2.1.2.2.1) != 45) then
 K false
 else
 k1 ((x2.1.1,x2.1.2.1,w64 (x2.1.2.2.1+1),()),()))
 else
 k1 ((x2.1.1,x2.1.2.1,w64 (x2.1.2.2.1+1),()),()))
 else
 (if decide (Eng.bAt x2.1.1 (Int.toNat x2.1.2.2.1) > 57) then
 (if (Eng.bAt x2.1.1 (Int.toNat x2.1.2.2.1) != 43) then
 (if (Eng.bAt x2.1.1 (Int.toNat x2.1.2.2.1) != 45) then
 K false
 else
 k1 ((x2.1.1,x2.1.2.1,w64 (x2.1.2.2.1+1),()),()))
 else
 k1 ((x2.1.1,x2.1.2.1,w64 (x2.1.2.2.1+1),()),()))
 else
 k1 ((x2.1.1,x2.1.2.1,w64 (x2.1.2.2.1+1),()),())))))
 else
 (if decide (Eng.bAt x2.1.1 (Int.toNat x2.1.2.2.1)≥65) then
 (if (!decide (Eng.bAt x2.1.1 (Int.toNat x2.1.2.2.1)≤90)) then
 (if decide (Eng.bAt x2.1.1 (Int.toNat x2.1.2.2.1) < 48) then
 (if (Eng.bAt x2.1.1 (Int.toNat x2.1.2.2.1) != 43) then
 (if (Eng.bAt x2.1.1 (Int.toNat x2.1.2.2.1) != 45) then
 K false
 else
 k1 ((x2.1.1,x2.1.2.1,w64 (x2.1.2.2.1+1),()),()))
 else
 k1 ((x2.1.1,x2.1.2.1,w64 (x2.1.2.2.1+1),()),()))
 else
 (if decide (Eng.bAt x2.1.1 (Int.toNat x2.1.2.2.1) > 57) then
 (if (Eng.bAt x2.1.1 (Int.toNat x2.1.2.2.1) != 43) then
 (if (Eng.bAt x2.1.1 (Int.toNat x2.1.2.2.1) != 45) then
 K false
 else
 k1 ((x2.1.1,x2.1.2.1,w64 (x2.1.2.2.1+1),()),()))
 else
 k1 ((x2.1.1,x2.1.2.1,w64 (x2.1.2.2.1+1),()),()))
 else
 k1 ((x2.1.1,x2.1.2.1,w64 (x2.1.2.2.1+1),()),())))
 else
 k1 ((x2.1.1,x2.1.2.1,w64 (x2.1.2.2.1+1),()),()))
 else
 (if decide (Eng.bAt x2.1.1 (Int.toNat x2.1.2.2.1) < 48) then
 (if (Eng.bAt x2.1.1 (Int.toNat x2.1.2.2.1) != 43) then
 (if (Eng.bAt x2.1.1 (Int.toNat x2.1.2.2.1) != 45) then
 K false
 else
 k1 ((x2.1.1,x2.1.2.1,w64 (x2.1.2.2.1+1),()),()))
 else
 k1 ((x2.1.1,x2.1.2.1,w64 (x2.1.2.2.1+1),()),()))
 else
 (if decide (Eng.bAt x2.1.1 (Int.toNat x2.1.2.2.1) > 57) then
 (if (Eng.bAt x2.1.1 (Int.toNat x2.1.2.2.1) != 43) then
 (if (Eng.bAt x2.1.1 (Int.toNat x2.1.2.2.1) != 45) then
 K false
 else
 k1 ((x2.1.1,x2.1.2.1,w64 (x2.1.2.2.1+1),()),()))
 else
 k1 ((x2.1.1,x2.1.2.1,w64 (x2.1.2.2.1+1),()),()))
 else
 k1 ((x2.1.1,x2.1.2.1,w64 (x2.1.2.2.1+1),()),())))))
 else
 False)
 else
 (if decide ((↑(ByteArray.size x2.1.1):Int)≥3) then
 K (decide ((↑(ByteArray.size x2.1.1):Int)≤16))
 else
 K false))
def Lq1s_0p:Lp:=⟨13,[.trim 13],upT105,.nil,0⟩
def Yq1s (a0:ByteArray) (K:Bool→Prop):Prop :=
 lp (Lq1s_0 K) ((a0,false,0,()),())
def Xq1s:Tq1s:=Yq1s
def Jq1s (X:Tq1s):Inst:=mkI 87 upL106 .nil upL9 .nil X
def Iq1s:Inst:=Jq1s Xq1s
theorem Eq1s:EqF Tryz.prog 55 gives Tryz.f87 [] [Lq1s_0p] (Jq1s (Yq1s)):=fun x y K=>by kernel_rfl
theorem Iq1s_ok:InstOk Tryz.prog G.1 Iq1s:=iok (gives:=gives) [Lq1s_0p] okNil 55 follows Tryz.func87 (by kernel_rfl) (fun x=>by kernel_rfl) (Eq1s)
abbrev Tq26:Type:=(List Eng.V)→(ByteArray→Bool→(List Eng.V)→Bool→Bool→Prop)→Prop
def Lq26_1 (K:ByteArray→Bool→(List Eng.V)→Bool→Bool→Prop) (k1:uQ107→Prop):(uQ108→Prop)→uQ108→Prop:=fun k5 x6 =>
 (if decide (x6.1.2.2.2.2.2.2.2.2.1 < x6.1.2.2.2.2.2.2.1) then
 (if 0≤x6.1.2.2.2.2.2.2.2.2.1∧x6.1.2.2.2.2.2.2.2.2.1 < (↑(List.length x6.1.1):Int) then
 (Eng.asStr (Eng.getC x6.1.1 (Int.toNat x6.1.2.2.2.2.2.2.2.2.1) (0:Nat)) False fun t7 =>
 (if 0≤x6.1.2.2.2.2.2.2.1∧x6.1.2.2.2.2.2.2.1 < (↑(List.length x6.1.1):Int) then
 (Eng.asStr (Eng.getC x6.1.1 (Int.toNat x6.1.2.2.2.2.2.2.1) (0:Nat)) False fun t8 =>
 (if (ByteArray.toList t7 == ByteArray.toList t8) then
 (if 0≤x6.1.2.2.2.2.2.2.2.2.1∧x6.1.2.2.2.2.2.2.2.2.1 < (↑(List.length x6.2.1):Int) then
 (Eng.asInt IntKind.i64 (Eng.getC x6.2.1 (Int.toNat x6.1.2.2.2.2.2.2.2.2.1) (0:Nat)) False fun n9 =>
 k5 ((x6.1.1,x6.1.2.1,(),x6.1.2.2.2.1,x6.1.2.2.2.2.1,(),x6.1.2.2.2.2.2.2.1,n9,w64 (x6.1.2.2.2.2.2.2.2.2.1+1),()),x6.2))
 else
 False)
 else
 k5 ((x6.1.1,x6.1.2.1,(),x6.1.2.2.2.1,x6.1.2.2.2.2.1,(),x6.1.2.2.2.2.2.2.1,x6.1.2.2.2.2.2.2.2.1,w64 (x6.1.2.2.2.2.2.2.2.2.1+1),()),x6.2)))
 else
 False))
 else
 False)
 else
 (if decide (x6.1.2.2.2.2.2.2.2.1 < 0) then
 (if 0≤x6.1.2.2.2.2.2.2.1∧x6.1.2.2.2.2.2.2.1 < (↑(List.length x6.1.1):Int) then
 (Eng.asStr (Eng.getC x6.1.1 (Int.toNat x6.1.2.2.2.2.2.2.1) (0:Nat)) False fun t10 =>
 (if (↑(ByteArray.size x6.1.2.2.2.2.1+ByteArray.size t10):Int) > 9223372036854775807 then
 False
 else
 (if (↑(ByteArray.size (x6.1.2.2.2.2.1++t10)+(1:Nat)):Int) > 9223372036854775807 then
 False
 else
 (lt (x6.1.2.2.2.2.1++t10++ByteArray.mk #[(0:UInt8)]) fun v11 =>
 (if Eng.roomOk (List.length x6.2.1+List.length [Eng.V.c (Value.int IntKind.i64 (↑(ByteArray.size x6.1.2.2.2.2.1):Int))]) (8:Nat) then
 k1 ((x6.1.1,x6.1.2.1,(),x6.1.2.2.2.1,v11,(),w64 (x6.1.2.2.2.2.2.2.1+1),()),x6.2.1++[Eng.V.c (Value.int IntKind.i64 (↑(ByteArray.size x6.1.2.2.2.2.1):Int))],())
 else
 False)))))
 else
 False)
 else
 (if Eng.roomOk (List.length x6.2.1+List.length [Eng.V.c (Value.int IntKind.i64 x6.1.2.2.2.2.2.2.2.1)]) (8:Nat) then
 k1 ((x6.1.1,x6.1.2.1,(),x6.1.2.2.2.1,x6.1.2.2.2.2.1,(),w64 (x6.1.2.2.2.2.2.2.1+1),()),x6.2.1++[Eng.V.c (Value.int IntKind.i64 x6.1.2.2.2.2.2.2.2.1)],())
 else
 False)))
def Lq26_1p:Lp:=⟨1021,[.trim 1021],upT109,upH110,0⟩
def Lq26_0 (xq1s:Tq1s) (K:ByteArray→Bool→(List Eng.V)→Bool→Bool→Prop):(uQ107→Prop)→uQ107→Prop:=fun k1 x2 =>
 (if decide (x2.1.2.2.2.2.2.2.1 < (↑(List.length x2.1.1):Int)) then
 (if 0≤x2.1.2.2.2.2.2.2.1∧x2.1.2.2.2.2.2.2.1 < (↑(List.length x2.1.1):Int) then
 (Eng.asStr (Eng.getC x2.1.1 (Int.toNat x2.1.2.2.2.2.2.2.1) (0:Nat)) False fun t3 =>
 xq1s t3 (fun r4 =>
 (if (!r4) then
 K (ByteArray.mk #[]) false [] true true
 else
 lp (Lq26_1 K k1) ((x2.1.1,x2.1.2.1,(),x2.1.2.2.2.1,x2.1.2.2.2.2.1,(),x2.1.2.2.2.2.2.2.1,(-1),0,()),x2.2))))
 else
 False)
 else
 (if decide ((↑(ByteArray.size x2.1.2.2.2.2.1):Int) > 256) then
 K (ByteArray.mk #[]) false [] true true
 else
 K x2.1.2.2.2.2.1 true x2.2.1 true false))
def Lq26_0p:Lp:=⟨253,[.trim 253,.fat 6 1 1024,.trim 253],upT111,upH110,0⟩
def Yq26 (xq1s:Tq1s) (a0:(List Eng.V)) (K:ByteArray→Bool→(List Eng.V)→Bool→Bool→Prop):Prop :=
 lp (Lq26_0 xq1s K) ((a0,ByteArray.mk #[],(),false,ByteArray.mk #[],(),0,()),[],())
def Xq26:Tq26:=Yq26 Xq1s
def Jq26 (X:Tq26):Inst:=mkI 103 upL3 .nil upL112 upH5 X
def Iq26:Inst:=Jq26 Xq26
theorem Eq26 (xq1s:Tq1s):EqF Tryz.prog 60 gives Tryz.f103 [Jq1s xq1s] [Lq26_0p,Lq26_1p] (Jq26 (Yq26 xq1s)):=fun x y K=>by kernel_rfl
theorem Iq26_ok:InstOk Tryz.prog G.1 Iq26:=iok (gives:=gives) [Lq26_0p,Lq26_1p] (okCons Iq1s_ok okNil) 60 follows Tryz.func103 (by kernel_rfl) (fun x=>by kernel_rfl) (Eq26 Xq1s)
abbrev Tq1r:Type:=uQ0→(Bool→Prop)→Prop
def Yq1r (a0:uQ0) (K:Bool→Prop):Prop :=
 (if decide (a0.1 < 1) then
 K false
 else
 (if decide (a0.1 > 4) then
 K false
 else
 (if decide (a0.2.2.2.2.2.1 < 1) then
 K false
 else
 (if decide (a0.2.2.2.2.2.1 > 64) then
 K false
 else
 (if decide (a0.2.2.2.2.2.2.1 < 1) then
 K false
 else
 (if decide (a0.2.2.2.2.2.2.1 > 256) then
 K false
 else
 (if decide (a0.2.2.2.1 < 0) then
 K false
 else
 (if decide (a0.2.2.2.1 > 201) then
 K false
 else
 (if decide (a0.2.2.2.2.1 < 0) then
 K false
 else
 (if decide (a0.2.2.2.2.1 > 2000) then
 K false
 else
 (if (a0.2.1 == 0) then
 (if (a0.2.2.1 == 0) then
 K true
 else
 K (a0.2.2.1 == a0.2.2.2.2.2.1))
 else
 (if (a0.2.1 == a0.2.2.2.2.2.1) then
 (if (a0.2.2.1 == 0) then
 K true
 else
 K (a0.2.2.1 == a0.2.2.2.2.2.1))
 else
 K false))))))))))))
def Xq1r:Tq1r:=Yq1r
def Jq1r (X:Tq1r):Inst:=mkI 105 upL55 .nil upL9 .nil X
def Iq1r:Inst:=Jq1r Xq1r
theorem Eq1r:EqF Tryz.prog 73 gives Tryz.f105 [] [] (Jq1r (Yq1r)):=fun x y K=>by kernel_rfl
theorem Iq1r_ok:InstOk Tryz.prog G.1 Iq1r:=iok (gives:=gives) [] okNil 73 follows Tryz.func105 (by kernel_rfl) (fun x=>by kernel_rfl) (Eq1r)
abbrev Tq1t:Type:=uQ58→(uQ0→Bool→Prop)→Prop
def Yq1t (xq1m:Tq1m) (xq26:Tq26) (xq1r:Tq1r) (a0:uQ58) (K:uQ0→Bool→Prop):Prop :=
 xq1m a0 (fun r1 r2 r3 =>
 xq26 r1 (fun r4 r5 r6 r7 r8 =>
 (if (!r5) then
 K (0,0,0,0,0,0,0,()) false
 else
 xq1r (a0.2.2.2.2.1,0,0,(↑(List.length a0.2.2.1):Int),(↑(List.length a0.2.1):Int),(↑(List.length a0.1):Int),(↑(ByteArray.size r4):Int),()) (fun r9 =>
 (if (!r9) then
 K (0,0,0,0,0,0,0,()) false
 else
 K (a0.2.2.2.2.1,0,0,(↑(List.length a0.2.2.1):Int),(↑(List.length a0.2.1):Int),(↑(List.length a0.1):Int),(↑(ByteArray.size r4):Int),()) true)))))
def Xq1t:Tq1t:=Yq1t Xq1m Xq26 Xq1r
def Jq1t (X:Tq1t):Inst:=mkI 42 upL74 .nil upL77 .nil X
def Iq1t:Inst:=Jq1t Xq1t
theorem Eq1t (xq1m:Tq1m) (xq26:Tq26) (xq1r:Tq1r):EqF Tryz.prog 38 gives Tryz.f42 [Jq1m xq1m,Jq26 xq26,Jq1r xq1r] [] (Jq1t (Yq1t xq1m xq26 xq1r)):=fun x y K=>by kernel_rfl
theorem Iq1t_ok:InstOk Tryz.prog G.1 Iq1t:=iok (gives:=gives) [] (okCons Iq1m_ok (okCons Iq26_ok (okCons Iq1r_ok okNil))) 38 follows Tryz.func42 (by kernel_rfl) (fun x=>by kernel_rfl) (Eq1t Xq1m Xq26 Xq1r)
abbrev Tq1g:Type:=(List Eng.V)→Int→(Int→Prop)→Prop
def Yq1g (a0:(List Eng.V)) (a1:Int) (K:Int→Prop):Prop :=
 (if (a1 == 0) then
 K 0
 else
 (if 0≤w64 (a1 - 1)∧w64 (a1 - 1) < (↑(List.length a0):Int) then
 (Eng.asInt IntKind.i64 (Eng.getC a0 (Int.toNat (w64 (a1 - 1))) (1:Nat)) False fun n2 =>
 K n2)
 else
 False))
def Xq1g:Tq1g:=Yq1g
def Jq1g (X:Tq1g):Inst:=mkI 195 upL113 .nil upL2 .nil X
def Iq1g:Inst:=Jq1g Xq1g
theorem Eq1g:EqF Tryz.prog 13 gives Tryz.f195 [] [] (Jq1g (Yq1g)):=fun x y K=>by kernel_rfl
theorem Iq1g_ok:InstOk Tryz.prog G.1 Iq1g:=iok (gives:=gives) [] okNil 13 follows Tryz.func195 (by kernel_rfl) (fun x=>by kernel_rfl) (Eq1g)
abbrev Tq27:Type:=Int→Int→(Int→Bool→Prop)→Prop
def Yq27 (a0:Int) (a1:Int) (K:Int→Bool→Prop):Prop :=
 (if decide (a1 < 0) then
 (if decide (a0 > w64 (9223372036854775807+a1)) then
 K 0 false
 else
 (if decide (a1 > 0) then
 (if decide (a0 < w64 ((-9223372036854775808)+a1)) then
 K 0 false
 else
 K (w64 (a0 - a1)) true)
 else
 K (w64 (a0 - a1)) true))
 else
 (if decide (a1 > 0) then
 (if decide (a0 < w64 ((-9223372036854775808)+a1)) then
 K 0 false
 else
 K (w64 (a0 - a1)) true)
 else
 K (w64 (a0 - a1)) true))
def Xq27:Tq27:=Yq27
def Jq27 (X:Tq27):Inst:=mkI 196 upL8 .nil upL114 .nil X
def Iq27:Inst:=Jq27 Xq27
theorem Eq27:EqF Tryz.prog 27 gives Tryz.f196 [] [] (Jq27 (Yq27)):=fun x y K=>by kernel_rfl
theorem Iq27_ok:InstOk Tryz.prog G.1 Iq27:=iok (gives:=gives) [] okNil 27 follows Tryz.func196 (by kernel_rfl) (fun x=>by kernel_rfl) (Eq27)
abbrev Tq1j:Type:=(List Eng.V)→(Int→Int→Prop)→Prop
def Lq1j_0 (xq1g:Tq1g) (xq27:Tq27) (K:Int→Int→Prop):(uQ115→Prop)→uQ115→Prop:=fun k1 x2 =>
 (if decide (x2.1.2.2.2.1 < (↑(List.length x2.1.1):Int)) then
 (if 0≤x2.1.2.2.2.1∧x2.1.2.2.2.1 < (↑(List.length x2.1.1):Int) then
 (Eng.asInt IntKind.i64 (Eng.getC x2.1.1 (Int.toNat x2.1.2.2.2.1) (1:Nat)) False fun n3 =>
 xq1g x2.1.1 x2.1.2.2.2.1 (fun r4 =>
 (if 0≤x2.1.2.2.2.1∧x2.1.2.2.2.1 < (↑(List.length x2.1.1):Int) then
 (Eng.asInt IntKind.i64 (Eng.getC x2.1.1 (Int.toNat x2.1.2.2.2.1) (1:Nat)) False fun n5 =>
 xq1g x2.1.1 x2.1.2.2.2.1 (fun r6 =>
 xq27 n5 r6 (fun r7 r8 =>
 (if r8 then
 (if (r7 == 1) then
 (if decide (x2.1.2.2.2.1 > 200) then
 K x2.1.2.2.2.1 8
 else
 (if 0≤x2.1.2.2.2.1∧x2.1.2.2.2.1 < (↑(List.length x2.1.1):Int) then
 (Eng.asInt IntKind.i64 (Eng.getC x2.1.1 (Int.toNat x2.1.2.2.2.1) (0:Nat)) False fun n9 =>
 (if decide (n9 < 0) then
 K x2.1.2.2.2.1 9
 else
 (if decide (x2.1.2.2.2.1 > 0) then
 (if (!n3 == r4) then
 (if 0≤x2.1.2.2.2.1∧x2.1.2.2.2.1 < (↑(List.length x2.1.1):Int) then
 (Eng.asInt IntKind.i64 (Eng.getC x2.1.1 (Int.toNat x2.1.2.2.2.1) (0:Nat)) False fun n10 =>
 (if 0≤w64 (x2.1.2.2.2.1 - 1)∧w64 (x2.1.2.2.2.1 - 1) < (↑(List.length x2.1.1):Int) then
 (Eng.asInt IntKind.i64 (Eng.getC x2.1.1 (Int.toNat (w64 (x2.1.2.2.2.1 - 1))) (0:Nat)) False fun n11 =>
 (if decide (w64 (n10 - n11) < 2419199) then
 K x2.1.2.2.2.1 7
 else
 (if 0≤x2.1.2.2.2.1∧x2.1.2.2.2.1 < (↑(List.length x2.1.1):Int) then
 (Eng.asInt IntKind.i64 (Eng.getC x2.1.1 (Int.toNat x2.1.2.2.2.1) (0:Nat)) False fun n12 =>
 (if 0≤w64 (x2.1.2.2.2.1 - 1)∧w64 (x2.1.2.2.2.1 - 1) < (↑(List.length x2.1.1):Int) then
 (Eng.asInt IntKind.i64 (Eng.getC x2.1.1 (Int.toNat (w64 (x2.1.2.2.2.1 - 1))) (0:Nat)) False fun n13 =>
 (if decide (n12 < n13) then
 K x2.1.2.2.2.1 7
 else
 k1 ((x2.1.1,x2.1.2.1,x2.1.2.2.1,w64 (x2.1.2.2.2.1+1),()),())))
 else
 False))
 else
 False)))
 else
 False))
 else
 False)
 else
 (if 0≤x2.1.2.2.2.1∧x2.1.2.2.2.1 < (↑(List.length x2.1.1):Int) then
 (Eng.asInt IntKind.i64 (Eng.getC x2.1.1 (Int.toNat x2.1.2.2.2.1) (0:Nat)) False fun n14 =>
 (if 0≤w64 (x2.1.2.2.2.1 - 1)∧w64 (x2.1.2.2.2.1 - 1) < (↑(List.length x2.1.1):Int) then
 (Eng.asInt IntKind.i64 (Eng.getC x2.1.1 (Int.toNat (w64 (x2.1.2.2.2.1 - 1))) (0:Nat)) False fun n15 =>
 (if decide (n14 < n15) then
 K x2.1.2.2.2.1 7
 else
 k1 ((x2.1.1,x2.1.2.1,x2.1.2.2.1,w64 (x2.1.2.2.2.1+1),()),())))
 else
 False))
 else
 False))
 else
 k1 ((x2.1.1,x2.1.2.1,x2.1.2.2.1,w64 (x2.1.2.2.2.1+1),()),()))))
 else
 False))
 else
 (if decide (x2.1.2.2.2.1 > 200) then
 K x2.1.2.2.2.1 8
 else
 (if 0≤x2.1.2.2.2.1∧x2.1.2.2.2.1 < (↑(List.length x2.1.1):Int) then
 (Eng.asInt IntKind.i64 (Eng.getC x2.1.1 (Int.toNat x2.1.2.2.2.1) (0:Nat)) False fun n16 =>
 (if decide (n16 < 0) then
 K x2.1.2.2.2.1 9
 else
 (if (!r7 == (-1)) then
 (if (x2.1.2.2.2.1 == w64 ((↑(List.length x2.1.1):Int) - 1)) then
 (if (!n3 == r4) then
 K x2.1.2.2.2.1 6
 else
 (if decide (x2.1.2.2.2.1 > 0) then
 (if (!n3 == r4) then
 (if 0≤x2.1.2.2.2.1∧x2.1.2.2.2.1 < (↑(List.length x2.1.1):Int) then
 (Eng.asInt IntKind.i64 (Eng.getC x2.1.1 (Int.toNat x2.1.2.2.2.1) (0:Nat)) False fun n17 =>
 (if 0≤w64 (x2.1.2.2.2.1 - 1)∧w64 (x2.1.2.2.2.1 - 1) < (↑(List.length x2.1.1):Int) then
 (Eng.asInt IntKind.i64 (Eng.getC x2.1.1 (Int.toNat (w64 (x2.1.2.2.2.1 - 1))) (0:Nat)) False fun n18 =>
 (if decide (w64 (n17 - n18) < 2419199) then
 K x2.1.2.2.2.1 7
 else
 (if 0≤x2.1.2.2.2.1∧x2.1.2.2.2.1 < (↑(List.length x2.1.1):Int) then
 (Eng.asInt IntKind.i64 (Eng.getC x2.1.1 (Int.toNat x2.1.2.2.2.1) (0:Nat)) False fun n19 =>
 (if 0≤w64 (x2.1.2.2.2.1 - 1)∧w64 (x2.1.2.2.2.1 - 1) < (↑(List.length x2.1.1):Int) then
 (Eng.asInt IntKind.i64 (Eng.getC x2.1.1 (Int.toNat (w64 (x2.1.2.2.2.1 - 1))) (0:Nat)) False fun n20 =>
 (if decide (n19 < n20) then
 K x2.1.2.2.2.1 7
 else
 k1 ((x2.1.1,x2.1.2.1,x2.1.2.2.1,w64 (x2.1.2.2.2.1+1),()),())))
 else
 False))
 else
 False)))
 else
 False))
 else
 False)
 else
 (if 0≤x2.1.2.2.2.1∧x2.1.2.2.2.1 < (↑(List.length x2.1.1):Int) then
 (Eng.asInt IntKind.i64 (Eng.getC x2.1.1 (Int.toNat x2.1.2.2.2.1) (0:Nat)) False fun n21 =>
 (if 0≤w64 (x2.1.2.2.2.1 - 1)∧w64 (x2.1.2.2.2.1 - 1) < (↑(List.length x2.1.1):Int) then
 (Eng.asInt IntKind.i64 (Eng.getC x2.1.1 (Int.toNat (w64 (x2.1.2.2.2.1 - 1))) (0:Nat)) False fun n22 =>
 (if decide (n21 < n22) then
 K x2.1.2.2.2.1 7
 else
 k1 ((x2.1.1,x2.1.2.1,x2.1.2.2.1,w64 (x2.1.2.2.2.1+1),()),())))
 else
 False))
 else
 False))
 else
 k1 ((x2.1.1,x2.1.2.1,x2.1.2.2.1,w64 (x2.1.2.2.2.1+1),()),())))
 else
 K x2.1.2.2.2.1 6)
 else
 (if decide (x2.1.2.2.2.1 > 0) then
 (if (!n3 == r4) then
 (if 0≤x2.1.2.2.2.1∧x2.1.2.2.2.1 < (↑(List.length x2.1.1):Int) then
 (Eng.asInt IntKind.i64 (Eng.getC x2.1.1 (Int.toNat x2.1.2.2.2.1) (0:Nat)) False fun n23 =>
 (if 0≤w64 (x2.1.2.2.2.1 - 1)∧w64 (x2.1.2.2.2.1 - 1) < (↑(List.length x2.1.1):Int) then
 (Eng.asInt IntKind.i64 (Eng.getC x2.1.1 (Int.toNat (w64 (x2.1.2.2.2.1 - 1))) (0:Nat)) False fun n24 =>
 (if decide (w64 (n23 - n24) < 2419199) then
 K x2.1.2.2.2.1 7
 else
 (if 0≤x2.1.2.2.2.1∧x2.1.2.2.2.1 < (↑(List.length x2.1.1):Int) then
 (Eng.asInt IntKind.i64 (Eng.getC x2.1.1 (Int.toNat x2.1.2.2.2.1) (0:Nat)) False fun n25 =>
 (if 0≤w64 (x2.1.2.2.2.1 - 1)∧w64 (x2.1.2.2.2.1 - 1) < (↑(List.length x2.1.1):Int) then
 (Eng.asInt IntKind.i64 (Eng.getC x2.1.1 (Int.toNat (w64 (x2.1.2.2.2.1 - 1))) (0:Nat)) False fun n26 =>
 (if decide (n25 < n26) then
 K x2.1.2.2.2.1 7
 else
 k1 ((x2.1.1,x2.1.2.1,x2.1.2.2.1,w64 (x2.1.2.2.2.1+1),()),())))
 else
 False))
 else
 False)))
 else
 False))
 else
 False)
 else
 (if 0≤x2.1.2.2.2.1∧x2.1.2.2.2.1 < (↑(List.length x2.1.1):Int) then
 (Eng.asInt IntKind.i64 (Eng.getC x2.1.1 (Int.toNat x2.1.2.2.2.1) (0:Nat)) False fun n27 =>
 (if 0≤w64 (x2.1.2.2.2.1 - 1)∧w64 (x2.1.2.2.2.1 - 1) < (↑(List.length x2.1.1):Int) then
 (Eng.asInt IntKind.i64 (Eng.getC x2.1.1 (Int.toNat (w64 (x2.1.2.2.2.1 - 1))) (0:Nat)) False fun n28 =>
 (if decide (n27 < n28) then
 K x2.1.2.2.2.1 7
 else
 k1 ((x2.1.1,x2.1.2.1,x2.1.2.2.1,w64 (x2.1.2.2.2.1+1),()),())))
 else
 False))
 else
 False))
 else
 k1 ((x2.1.1,x2.1.2.1,x2.1.2.2.1,w64 (x2.1.2.2.2.1+1),()),())))))
 else
 False)))
 else
 (if decide (x2.1.2.2.2.1 > 200) then
 K x2.1.2.2.2.1 8
 else
 (if 0≤x2.1.2.2.2.1∧x2.1.2.2.2.1 < (↑(List.length x2.1.1):Int) then
 (Eng.asInt IntKind.i64 (Eng.getC x2.1.1 (Int.toNat x2.1.2.2.2.1) (0:Nat)) False fun n29 =>
 (if decide (n29 < 0) then
 K x2.1.2.2.2.1 9
 else
 (if (x2.1.2.2.2.1 == w64 ((↑(List.length x2.1.1):Int) - 1)) then
 (if (!n3 == r4) then
 K x2.1.2.2.2.1 6
 else
 (if decide (x2.1.2.2.2.1 > 0) then
 (if (!n3 == r4) then
 (if 0≤x2.1.2.2.2.1∧x2.1.2.2.2.1 < (↑(List.length x2.1.1):Int) then
 (Eng.asInt IntKind.i64 (Eng.getC x2.1.1 (Int.toNat x2.1.2.2.2.1) (0:Nat)) False fun n30 =>
 (if 0≤w64 (x2.1.2.2.2.1 - 1)∧w64 (x2.1.2.2.2.1 - 1) < (↑(List.length x2.1.1):Int) then
 (Eng.asInt IntKind.i64 (Eng.getC x2.1.1 (Int.toNat (w64 (x2.1.2.2.2.1 - 1))) (0:Nat)) False fun n31 =>
 (if decide (w64 (n30 - n31) < 2419199) then
 K x2.1.2.2.2.1 7
 else
 (if 0≤x2.1.2.2.2.1∧x2.1.2.2.2.1 < (↑(List.length x2.1.1):Int) then
 (Eng.asInt IntKind.i64 (Eng.getC x2.1.1 (Int.toNat x2.1.2.2.2.1) (0:Nat)) False fun n32 =>
 (if 0≤w64 (x2.1.2.2.2.1 - 1)∧w64 (x2.1.2.2.2.1 - 1) < (↑(List.length x2.1.1):Int) then
 (Eng.asInt IntKind.i64 (Eng.getC x2.1.1 (Int.toNat (w64 (x2.1.2.2.2.1 - 1))) (0:Nat)) False fun n33 =>
 (if decide (n32 < n33) then
 K x2.1.2.2.2.1 7
 else
 k1 ((x2.1.1,x2.1.2.1,x2.1.2.2.1,w64 (x2.1.2.2.2.1+1),()),())))
 else
 False))
 else
 False)))
 else
 False))
 else
 False)
 else
 (if 0≤x2.1.2.2.2.1∧x2.1.2.2.2.1 < (↑(List.length x2.1.1):Int) then
 (Eng.asInt IntKind.i64 (Eng.getC x2.1.1 (Int.toNat x2.1.2.2.2.1) (0:Nat)) False fun n34 =>
 (if 0≤w64 (x2.1.2.2.2.1 - 1)∧w64 (x2.1.2.2.2.1 - 1) < (↑(List.length x2.1.1):Int) then
 (Eng.asInt IntKind.i64 (Eng.getC x2.1.1 (Int.toNat (w64 (x2.1.2.2.2.1 - 1))) (0:Nat)) False fun n35 =>
 (if decide (n34 < n35) then
 K x2.1.2.2.2.1 7
 else
 k1 ((x2.1.1,x2.1.2.1,x2.1.2.2.1,w64 (x2.1.2.2.2.1+1),()),())))
 else
 False))
 else
 False))
 else
 k1 ((x2.1.1,x2.1.2.1,x2.1.2.2.1,w64 (x2.1.2.2.2.1+1),()),())))
 else
 K x2.1.2.2.2.1 6)))
 else
 False))))))
 else
 False)))
 else
 False)
 else
 K (↑(List.length x2.1.1):Int) 0)
def Lq1j_0p:Lp:=⟨29,[.trim 29],upT116,.nil,0⟩
def Yq1j (xq1g:Tq1g) (xq27:Tq27) (a0:(List Eng.V)) (K:Int→Int→Prop):Prop :=
 lp (Lq1j_0 xq1g xq27 K) ((a0,0,0,0,()),())
def Xq1j:Tq1j:=Yq1j Xq1g Xq27
def Jq1j (X:Tq1j):Inst:=mkI 157 upL97 .nil upL8 .nil X
def Iq1j:Inst:=Jq1j Xq1j
theorem Eq1j (xq1g:Tq1g) (xq27:Tq27):EqF Tryz.prog 109 gives Tryz.f157 [Jq1g xq1g,Jq27 xq27] [Lq1j_0p] (Jq1j (Yq1j xq1g xq27)):=fun x y K=>by kernel_rfl
theorem Iq1j_ok:InstOk Tryz.prog G.1 Iq1j:=iok (gives:=gives) [Lq1j_0p] (okCons Iq1g_ok (okCons Iq27_ok okNil)) 109 follows Tryz.func157 (by kernel_rfl) (fun x=>by kernel_rfl) (Eq1j Xq1g Xq27)
abbrev Tq1h:Type:=(List Eng.V)→(Bool→Prop)→Prop
def Yq1h (xq1j:Tq1j) (a0:(List Eng.V)) (K:Bool→Prop):Prop :=
 xq1j a0 (fun r1 r2 =>
 K (r2 == 0))
def Xq1h:Tq1h:=Yq1h Xq1j
def Jq1h (X:Tq1h):Inst:=mkI 100 upL97 .nil upL9 .nil X
def Iq1h:Inst:=Jq1h Xq1h
theorem Eq1h (xq1j:Tq1j):EqF Tryz.prog 12 gives Tryz.f100 [Jq1j xq1j] [] (Jq1h (Yq1h xq1j)):=fun x y K=>by kernel_rfl
theorem Iq1h_ok:InstOk Tryz.prog G.1 Iq1h:=iok (gives:=gives) [] (okCons Iq1j_ok okNil) 12 follows Tryz.func100 (by kernel_rfl) (fun x=>by kernel_rfl) (Eq1h Xq1j)
abbrev Tq1k:Type:=(List Eng.V)→(Int→Prop)→Prop
def Yq1k (xq1g:Tq1g) (a0:(List Eng.V)) (K:Int→Prop):Prop :=
 (if decide ((↑(List.length a0):Int) > 0) then
 (if 0≤w64 ((↑(List.length a0):Int) - 1)∧w64 ((↑(List.length a0):Int) - 1) < (↑(List.length a0):Int) then
 (Eng.asInt IntKind.i64 (Eng.getC a0 (Int.toNat (w64 ((↑(List.length a0):Int) - 1))) (1:Nat)) False fun n1 =>
 xq1g a0 (w64 ((↑(List.length a0):Int) - 1)) (fun r2 =>
 (if (n1 == r2) then
 K (w64 ((↑(List.length a0):Int) - 1))
 else
 K (↑(List.length a0):Int))))
 else
 False)
 else
 K (↑(List.length a0):Int))
def Xq1k:Tq1k:=Yq1k Xq1g
def Jq1k (X:Tq1k):Inst:=mkI 158 upL97 .nil upL2 .nil X
def Iq1k:Inst:=Jq1k Xq1k
theorem Eq1k (xq1g:Tq1g):EqF Tryz.prog 24 gives Tryz.f158 [Jq1g xq1g] [] (Jq1k (Yq1k xq1g)):=fun x y K=>by kernel_rfl
theorem Iq1k_ok:InstOk Tryz.prog G.1 Iq1k:=iok (gives:=gives) [] (okCons Iq1g_ok okNil) 24 follows Tryz.func158 (by kernel_rfl) (fun x=>by kernel_rfl) (Eq1k Xq1g)
abbrev Tq11:Type:=(List Eng.V)→(Int→Bool→Prop)→Prop
def Yq11 (xq1k:Tq1k) (a0:(List Eng.V)) (K:Int→Bool→Prop):Prop :=
 xq1k a0 (fun r1 =>
 (if (r1 == (↑(List.length a0):Int)) then
 K 0 false
 else
 (if 0≤r1∧r1 < (↑(List.length a0):Int) then
 (Eng.asInt IntKind.i64 (Eng.getC a0 (Int.toNat r1) (0:Nat)) False fun n2 =>
 K n2 true)
 else
 False)))
def Xq11:Tq11:=Yq11 Xq1k
def Jq11 (X:Tq11):Inst:=mkI 101 upL97 .nil upL114 .nil X
def Iq11:Inst:=Jq11 Xq11
theorem Eq11 (xq1k:Tq1k):EqF Tryz.prog 16 gives Tryz.f101 [Jq1k xq1k] [] (Jq11 (Yq11 xq1k)):=fun x y K=>by kernel_rfl
theorem Iq11_ok:InstOk Tryz.prog G.1 Iq11:=iok (gives:=gives) [] (okCons Iq1k_ok okNil) 16 follows Tryz.func101 (by kernel_rfl) (fun x=>by kernel_rfl) (Eq11 Xq1k)
abbrev Tq29:Type:=ByteArray→ByteArray→(ByteArray→ByteArray→Bool→Prop)→Prop
def Lq29_0 (K:ByteArray→ByteArray→Bool→Prop):(uQ117→Prop)→uQ117→Prop:=fun k2 x3 =>
 (if decide (w64 (x3.1.2.2.2.2.2.1+(↑(ByteArray.size x3.1.2.1):Int))≤(↑(ByteArray.size x3.1.1):Int)) then
 (if (!ByteArray.toList x3.1.2.1 == ByteArray.toList (ByteArray.mk #[])) then
 (if 0≤w64 (x3.1.2.2.2.2.2.1+(↑(ByteArray.size x3.1.2.1):Int))∧w64 (x3.1.2.2.2.2.2.1+(↑(ByteArray.size x3.1.2.1):Int))≤(↑(ByteArray.size x3.1.1):Int) then
 (if 0≤x3.1.2.2.2.2.2.1∧x3.1.2.2.2.2.2.1≤w64 (x3.1.2.2.2.2.2.1+(↑(ByteArray.size x3.1.2.1):Int)) then
 (lt (ByteArray.extract x3.1.1 (Int.toNat x3.1.2.2.2.2.2.1) (Int.toNat (w64 (x3.1.2.2.2.2.2.1+(↑(ByteArray.size x3.1.2.1):Int))))) fun v4 =>
 (if (ByteArray.toList v4 == ByteArray.toList x3.1.2.1) then
 (if 0≤x3.1.2.2.2.2.2.1∧x3.1.2.2.2.2.2.1≤(↑(ByteArray.size x3.1.1):Int) then
 (if (0 :Int)≤0∧0≤x3.1.2.2.2.2.2.1 then
 (if 0≤(↑(ByteArray.size x3.1.1):Int)∧(↑(ByteArray.size x3.1.1):Int)≤(↑(ByteArray.size x3.1.1):Int) then
 (if 0≤w64 (x3.1.2.2.2.2.2.1+(↑(ByteArray.size x3.1.2.1):Int))∧w64 (x3.1.2.2.2.2.2.1+(↑(ByteArray.size x3.1.2.1):Int))≤(↑(ByteArray.size x3.1.1):Int) then
 (lt (ByteArray.extract x3.1.1 (Int.toNat (w64 (x3.1.2.2.2.2.2.1+(↑(ByteArray.size x3.1.2.1):Int)))) (Int.toNat (↑(ByteArray.size x3.1.1):Int))) fun v5 =>
 K (ByteArray.extract x3.1.1 (0:Nat) (Int.toNat x3.1.2.2.2.2.2.1)) v5 true)
 else
 False)
 else
 False)
 else
 False)
 else
 False)
 else
 k2 ((x3.1.1,x3.1.2.1,x3.1.2.2.1,x3.1.2.2.2.1,x3.1.2.2.2.2.1,w64 (x3.1.2.2.2.2.2.1+1),()),())))
 else
 False)
 else
 False)
 else
 K x3.1.1 (ByteArray.mk #[]) false)
 else
 K x3.1.1 (ByteArray.mk #[]) false)
def Lq29_0p:Lp:=⟨243,[.trim 243],upT118,.nil,0⟩
def Yq29 (a0:ByteArray) (a1:ByteArray) (K:ByteArray→ByteArray→Bool→Prop):Prop :=
 lp (Lq29_0 K) ((a0,a1,ByteArray.mk #[],ByteArray.mk #[],false,0,()),())
def Xq29:Tq29:=Yq29
def Jq29 (X:Tq29):Inst:=mkI 197 upL81 .nil upL119 .nil X
def Iq29:Inst:=Jq29 Xq29
theorem Eq29:EqF Tryz.prog 40 gives Tryz.f197 [] [Lq29_0p] (Jq29 (Yq29)):=fun x y K=>by kernel_rfl
theorem Iq29_ok:InstOk Tryz.prog G.1 Iq29:=iok (gives:=gives) [Lq29_0p] okNil 40 follows Tryz.func197 (by kernel_rfl) (fun x=>by kernel_rfl) (Eq29)
abbrev Tq12:Type:=Int→(Bool→Prop)→Prop
def Yq12 (a0:Int) (K:Bool→Prop):Prop :=
 (if decide (a0≥97) then
 (if decide (a0≤122) then
 K true
 else
 (if decide (a0≥65) then
 K (decide (a0≤90))
 else
 K false))
 else
 (if decide (a0≥65) then
 K (decide (a0≤90))
 else
 K false))
def Xq12:Tq12:=Yq12
def Jq12 (X:Tq12):Inst:=mkI 198 upL24 .nil upL9 .nil X
def Iq12:Inst:=Jq12 Xq12
theorem Eq12:EqF Tryz.prog 17 gives Tryz.f198 [] [] (Jq12 (Yq12)):=fun x y K=>by kernel_rfl
theorem Iq12_ok:InstOk Tryz.prog G.1 Iq12:=iok (gives:=gives) [] okNil 17 follows Tryz.func198 (by kernel_rfl) (fun x=>by kernel_rfl) (Eq12)
abbrev Tq1y:Type:=ByteArray→(ByteArray→ByteArray→Bool→Prop)→Prop
def Lq1y_0 (xq12:Tq12) (xq1s:Tq1s) (K:ByteArray→ByteArray→Bool→Prop):(uQ120→Prop)→uQ120→Prop:=fun k5 x6 =>
 (if decide (x6.1.2.2.2.2.1 < (↑(ByteArray.size x6.1.1):Int)) then
 (if 0≤x6.1.2.2.2.2.1∧x6.1.2.2.2.2.1 < (↑(ByteArray.size x6.1.1):Int) then
 xq12 (Eng.bAt x6.1.1 (Int.toNat x6.1.2.2.2.2.1)) (fun r7 =>
 (if r7 then
 k5 ((x6.1.1,x6.1.2.1,x6.1.2.2.1,x6.1.2.2.2.1,w64 (x6.1.2.2.2.2.1+1),()),())
 else
 (if 0≤x6.1.2.2.2.2.1∧x6.1.2.2.2.2.1≤(↑(ByteArray.size x6.1.1):Int) then
 (if (0 :Int)≤0∧0≤x6.1.2.2.2.2.1 then
 xq1s (ByteArray.extract x6.1.1 (0:Nat) (Int.toNat x6.1.2.2.2.2.1)) (fun r8 =>
 (if 0≤x6.1.2.2.2.2.1∧x6.1.2.2.2.2.1≤(↑(ByteArray.size x6.1.1):Int) then
 (if (0 :Int)≤0∧0≤x6.1.2.2.2.2.1 then
 (if 0≤(↑(ByteArray.size x6.1.1):Int)∧(↑(ByteArray.size x6.1.1):Int)≤(↑(ByteArray.size x6.1.1):Int) then
 (if 0≤x6.1.2.2.2.2.1∧x6.1.2.2.2.2.1≤(↑(ByteArray.size x6.1.1):Int) then
 K (ByteArray.extract x6.1.1 (0:Nat) (Int.toNat x6.1.2.2.2.2.1)) (ByteArray.extract x6.1.1 (Int.toNat x6.1.2.2.2.2.1) (Int.toNat (↑(ByteArray.size x6.1.1):Int))) r8
 else
 False)
 else
 False)
 else
 False)
 else
 False))
 else
 False)
 else
 False)))
 else
 False)
 else
 (if 0≤x6.1.2.2.2.2.1∧x6.1.2.2.2.2.1≤(↑(ByteArray.size x6.1.1):Int) then
 (if (0 :Int)≤0∧0≤x6.1.2.2.2.2.1 then
 xq1s (ByteArray.extract x6.1.1 (0:Nat) (Int.toNat x6.1.2.2.2.2.1)) (fun r9 =>
 (if 0≤x6.1.2.2.2.2.1∧x6.1.2.2.2.2.1≤(↑(ByteArray.size x6.1.1):Int) then
 (if (0 :Int)≤0∧0≤x6.1.2.2.2.2.1 then
 (if 0≤(↑(ByteArray.size x6.1.1):Int)∧(↑(ByteArray.size x6.1.1):Int)≤(↑(ByteArray.size x6.1.1):Int) then
 (if 0≤x6.1.2.2.2.2.1∧x6.1.2.2.2.2.1≤(↑(ByteArray.size x6.1.1):Int) then
 K (ByteArray.extract x6.1.1 (0:Nat) (Int.toNat x6.1.2.2.2.2.1)) (ByteArray.extract x6.1.1 (Int.toNat x6.1.2.2.2.2.1) (Int.toNat (↑(ByteArray.size x6.1.1):Int))) r9
 else
 False)
 else
 False)
 else
 False)
 else
 False))
 else
 False)
 else
 False))
def Lq1y_0p:Lp:=⟨541,[.trim 541],upT121,.nil,0⟩
def Yq1y (xq29:Tq29) (xq1s:Tq1s) (xq12:Tq12) (a0:ByteArray) (K:ByteArray→ByteArray→Bool→Prop):Prop :=
 (if decide ((↑(ByteArray.size a0):Int) > 0) then
 (if (0 :Int)≤0∧0 < (↑(ByteArray.size a0):Int) then
 (if (Eng.bAt a0 (0:Nat) == 60) then
 (if 0≤(↑(ByteArray.size a0):Int)∧(↑(ByteArray.size a0):Int)≤(↑(ByteArray.size a0):Int) then
 (if (0 :Int)≤1∧1≤(↑(ByteArray.size a0):Int) then
 xq29 (ByteArray.extract a0 (1:Nat) (Int.toNat (↑(ByteArray.size a0):Int))) (ByteArray.mk #[(62:UInt8)]) (fun r1 r2 r3 =>
 xq1s r1 (fun r4 =>
 (if r3 then
 K r1 r2 r4
 else
 K r1 r2 false)))
 else
 False)
 else
 False)
 else
 lp (Lq1y_0 xq12 xq1s K) ((a0,ByteArray.mk #[],ByteArray.mk #[],false,0,()),()))
 else
 False)
 else
 lp (Lq1y_0 xq12 xq1s K) ((a0,ByteArray.mk #[],ByteArray.mk #[],false,0,()),()))
def Xq1y:Tq1y:=Yq1y Xq29 Xq1s Xq12
def Jq1y (X:Tq1y):Inst:=mkI 159 upL106 .nil upL119 .nil X
def Iq1y:Inst:=Jq1y Xq1y
theorem Eq1y (xq29:Tq29) (xq1s:Tq1s) (xq12:Tq12):EqF Tryz.prog 57 gives Tryz.f159 [Jq29 xq29,Jq1s xq1s,Jq12 xq12] [Lq1y_0p] (Jq1y (Yq1y xq29 xq1s xq12)):=fun x y K=>by kernel_rfl
theorem Iq1y_ok:InstOk Tryz.prog G.1 Iq1y:=iok (gives:=gives) [Lq1y_0p] (okCons Iq29_ok (okCons Iq1s_ok (okCons Iq12_ok okNil))) 57 follows Tryz.func159 (by kernel_rfl) (fun x=>by kernel_rfl) (Eq1y Xq29 Xq1s Xq12)
abbrev Tq2e:Type:=ByteArray→(Int→ByteArray→Prop)→Prop
def Yq2e (a0:ByteArray) (K:Int→ByteArray→Prop):Prop :=
 (if decide ((↑(ByteArray.size a0):Int) < 3) then
 K (-1) a0
 else
 (if (0 :Int)≤0∧0 < (↑(ByteArray.size a0):Int) then
 (if (Eng.bAt a0 (0:Nat) != 58) then
 K (-1) a0
 else
 (if (0 :Int)≤1∧1 < (↑(ByteArray.size a0):Int) then
 (if decide (Eng.bAt a0 (1:Nat) < 48) then
 K (-1) a0
 else
 (if (0 :Int)≤1∧1 < (↑(ByteArray.size a0):Int) then
 (if decide (Eng.bAt a0 (1:Nat) > 53) then
 K (-1) a0
 else
 (if (0 :Int)≤2∧2 < (↑(ByteArray.size a0):Int) then
 (if decide (Eng.bAt a0 (2:Nat) < 48) then
 K (-1) a0
 else
 (if (0 :Int)≤2∧2 < (↑(ByteArray.size a0):Int) then
 (if decide (Eng.bAt a0 (2:Nat) > 57) then
 K (-1) a0
 else
 (if (0 :Int)≤1∧1 < (↑(ByteArray.size a0):Int) then
 (lt (w64 (wu8 (Eng.bAt a0 (1:Nat) - 48))) fun v1 =>
 (if (0 :Int)≤2∧2 < (↑(ByteArray.size a0):Int) then
 (lt (w64 (wu8 (Eng.bAt a0 (2:Nat) - 48))) fun v2 =>
 (lt (w64 (w64 (10 * v1)+v2)) fun v3 =>
 (if 0≤(↑(ByteArray.size a0):Int)∧(↑(ByteArray.size a0):Int)≤(↑(ByteArray.size a0):Int) then
 (if (0 :Int)≤3∧3≤(↑(ByteArray.size a0):Int) then
 K v3 (ByteArray.extract a0 (3:Nat) (Int.toNat (↑(ByteArray.size a0):Int)))
 else
 False)
 else
 False)))
 else
 False))
 else
 False))
 else
 False))
 else
 False))
 else
 False))
 else
 False))
 else
 False))
def Xq2e:Tq2e:=Yq2e
def Jq2e (X:Tq2e):Inst:=mkI 199 upL106 .nil upL122 .nil X
def Iq2e:Inst:=Jq2e Xq2e
theorem Eq2e:EqF Tryz.prog 45 gives Tryz.f199 [] [] (Jq2e (Yq2e)):=fun x y K=>by kernel_rfl
theorem Iq2e_ok:InstOk Tryz.prog G.1 Iq2e:=iok (gives:=gives) [] okNil 45 follows Tryz.func199 (by kernel_rfl) (fun x=>by kernel_rfl) (Eq2e)
abbrev Tq1v:Type:=ByteArray→(Int→ByteArray→Bool→Prop)→Prop
def Lq1v_0 (xq2e:Tq2e) (K:Int→ByteArray→Bool→Prop):(uQ123→Prop)→uQ123→Prop:=fun k1 x2 =>
 (if decide (x2.1.2.2.2.2.2.2.1 < (↑(ByteArray.size x2.1.2.2.2.2.1):Int)) then
 (if decide (x2.1.2.2.2.2.2.2.1 < 3) then
 (if 0≤x2.1.2.2.2.2.2.2.1∧x2.1.2.2.2.2.2.2.1 < (↑(ByteArray.size x2.1.2.2.2.2.1):Int) then
 (if decide (Eng.bAt x2.1.2.2.2.2.1 (Int.toNat x2.1.2.2.2.2.2.2.1)≥48) then
 (if 0≤x2.1.2.2.2.2.2.2.1∧x2.1.2.2.2.2.2.2.1 < (↑(ByteArray.size x2.1.2.2.2.2.1):Int) then
 (if decide (Eng.bAt x2.1.2.2.2.2.1 (Int.toNat x2.1.2.2.2.2.2.2.1)≤57) then
 (if 0≤x2.1.2.2.2.2.2.2.1∧x2.1.2.2.2.2.2.2.1 < (↑(ByteArray.size x2.1.2.2.2.2.1):Int) then
 (lt (w64 (wu8 (Eng.bAt x2.1.2.2.2.2.1 (Int.toNat x2.1.2.2.2.2.2.2.1) - 48))) fun v3 =>
 (lt (w64 (w64 (10 * x2.1.2.2.2.2.2.2.2.1)+v3)) fun v4 =>
 (if decide (v4≤167) then
 (if 0≤x2.1.2.2.2.2.2.2.1∧x2.1.2.2.2.2.2.2.1 < (↑(ByteArray.size x2.1.2.2.2.2.1):Int) then
 (lt (w64 (wu8 (Eng.bAt x2.1.2.2.2.2.1 (Int.toNat x2.1.2.2.2.2.2.2.1) - 48))) fun v5 =>
 (lt (w64 (w64 (10 * x2.1.2.2.2.2.2.2.2.1)+v5)) fun v6 =>
 k1 ((x2.1.1,x2.1.2.1,x2.1.2.2.1,x2.1.2.2.2.1,x2.1.2.2.2.2.1,x2.1.2.2.2.2.2.1,w64 (x2.1.2.2.2.2.2.2.1+1),v6,()),())))
 else
 False)
 else
 (if (x2.1.2.2.2.2.2.2.1 == 0) then
 K 0 x2.1.1 false
 else
 (if 0≤(↑(ByteArray.size x2.1.2.2.2.2.1):Int)∧(↑(ByteArray.size x2.1.2.2.2.2.1):Int)≤(↑(ByteArray.size x2.1.2.2.2.2.1):Int) then
 (if 0≤x2.1.2.2.2.2.2.2.1∧x2.1.2.2.2.2.2.2.1≤(↑(ByteArray.size x2.1.2.2.2.2.1):Int) then
 xq2e (ByteArray.extract x2.1.2.2.2.2.1 (Int.toNat x2.1.2.2.2.2.2.2.1) (Int.toNat (↑(ByteArray.size x2.1.2.2.2.2.1):Int))) (fun r7 r8 =>
 (if decide (r7 < 0) then
 (lt (w64 (w64 (x2.1.2.2.2.2.2.1 * 3600) * x2.1.2.2.2.2.2.2.2.1)) fun v9 =>
 K v9 (ByteArray.extract x2.1.2.2.2.2.1 (Int.toNat x2.1.2.2.2.2.2.2.1) (Int.toNat (↑(ByteArray.size x2.1.2.2.2.2.1):Int))) true)
 else
 xq2e r8 (fun r10 r11 =>
 (if decide (r10 < 0) then
 (lt (w64 (w64 (3600 * x2.1.2.2.2.2.2.2.2.1)+w64 (60 * r7))) fun v12 =>
 K (w64 (x2.1.2.2.2.2.2.1 * v12)) r8 true)
 else
 (lt (w64 (w64 (3600 * x2.1.2.2.2.2.2.2.2.1)+w64 (60 * r7))) fun v13 =>
 (lt (w64 (x2.1.2.2.2.2.2.1 * w64 (v13+r10))) fun v14 =>
 K v14 r11 true))))))
 else
 False)
 else
 False)))))
 else
 False)
 else
 (if (x2.1.2.2.2.2.2.2.1 == 0) then
 K 0 x2.1.1 false
 else
 (if 0≤(↑(ByteArray.size x2.1.2.2.2.2.1):Int)∧(↑(ByteArray.size x2.1.2.2.2.2.1):Int)≤(↑(ByteArray.size x2.1.2.2.2.2.1):Int) then
 (if 0≤x2.1.2.2.2.2.2.2.1∧x2.1.2.2.2.2.2.2.1≤(↑(ByteArray.size x2.1.2.2.2.2.1):Int) then
 xq2e (ByteArray.extract x2.1.2.2.2.2.1 (Int.toNat x2.1.2.2.2.2.2.2.1) (Int.toNat (↑(ByteArray.size x2.1.2.2.2.2.1):Int))) (fun r15 r16 =>
 (if decide (r15 < 0) then
 (lt (w64 (w64 (x2.1.2.2.2.2.2.1 * 3600) * x2.1.2.2.2.2.2.2.2.1)) fun v17 =>
 K v17 (ByteArray.extract x2.1.2.2.2.2.1 (Int.toNat x2.1.2.2.2.2.2.2.1) (Int.toNat (↑(ByteArray.size x2.1.2.2.2.2.1):Int))) true)
 else
 xq2e r16 (fun r18 r19 =>
 (if decide (r18 < 0) then
 (lt (w64 (w64 (3600 * x2.1.2.2.2.2.2.2.2.1)+w64 (60 * r15))) fun v20 =>
 K (w64 (x2.1.2.2.2.2.2.1 * v20)) r16 true)
 else
 (lt (w64 (w64 (3600 * x2.1.2.2.2.2.2.2.2.1)+w64 (60 * r15))) fun v21 =>
 (lt (w64 (x2.1.2.2.2.2.2.1 * w64 (v21+r18))) fun v22 =>
 K v22 r19 true))))))
 else
 False)
 else
 False)))
 else
 False)
 else
 (if (x2.1.2.2.2.2.2.2.1 == 0) then
 K 0 x2.1.1 false
 else
 (if 0≤(↑(ByteArray.size x2.1.2.2.2.2.1):Int)∧(↑(ByteArray.size x2.1.2.2.2.2.1):Int)≤(↑(ByteArray.size x2.1.2.2.2.2.1):Int) then
 (if 0≤x2.1.2.2.2.2.2.2.1∧x2.1.2.2.2.2.2.2.1≤(↑(ByteArray.size x2.1.2.2.2.2.1):Int) then
 xq2e (ByteArray.extract x2.1.2.2.2.2.1 (Int.toNat x2.1.2.2.2.2.2.2.1) (Int.toNat (↑(ByteArray.size x2.1.2.2.2.2.1):Int))) (fun r23 r24 =>
 (if decide (r23 < 0) then
 (lt (w64 (w64 (x2.1.2.2.2.2.2.1 * 3600) * x2.1.2.2.2.2.2.2.2.1)) fun v25 =>
 K v25 (ByteArray.extract x2.1.2.2.2.2.1 (Int.toNat x2.1.2.2.2.2.2.2.1) (Int.toNat (↑(ByteArray.size x2.1.2.2.2.2.1):Int))) true)
 else
 xq2e r24 (fun r26 r27 =>
 (if decide (r26 < 0) then
 (lt (w64 (w64 (3600 * x2.1.2.2.2.2.2.2.2.1)+w64 (60 * r23))) fun v28 =>
 K (w64 (x2.1.2.2.2.2.2.1 * v28)) r24 true)
 else
 (lt (w64 (w64 (3600 * x2.1.2.2.2.2.2.2.2.1)+w64 (60 * r23))) fun v29 =>
 (lt (w64 (x2.1.2.2.2.2.2.1 * w64 (v29+r26))) fun v30 =>
 K v30 r27 true))))))
 else
 False)
 else
 False)))
 else
 False)
 else
 (if (x2.1.2.2.2.2.2.2.1 == 0) then
 K 0 x2.1.1 false
 else
 (if 0≤(↑(ByteArray.size x2.1.2.2.2.2.1):Int)∧(↑(ByteArray.size x2.1.2.2.2.2.1):Int)≤(↑(ByteArray.size x2.1.2.2.2.2.1):Int) then
 (if 0≤x2.1.2.2.2.2.2.2.1∧x2.1.2.2.2.2.2.2.1≤(↑(ByteArray.size x2.1.2.2.2.2.1):Int) then
 xq2e (ByteArray.extract x2.1.2.2.2.2.1 (Int.toNat x2.1.2.2.2.2.2.2.1) (Int.toNat (↑(ByteArray.size x2.1.2.2.2.2.1):Int))) (fun r31 r32 =>
 (if decide (r31 < 0) then
 (lt (w64 (w64 (x2.1.2.2.2.2.2.1 * 3600) * x2.1.2.2.2.2.2.2.2.1)) fun v33 =>
 K v33 (ByteArray.extract x2.1.2.2.2.2.1 (Int.toNat x2.1.2.2.2.2.2.2.1) (Int.toNat (↑(ByteArray.size x2.1.2.2.2.2.1):Int))) true)
 else
 xq2e r32 (fun r34 r35 =>
 (if decide (r34 < 0) then
 (lt (w64 (w64 (3600 * x2.1.2.2.2.2.2.2.2.1)+w64 (60 * r31))) fun v36 =>
 K (w64 (x2.1.2.2.2.2.2.1 * v36)) r32 true)
 else
 (lt (w64 (w64 (3600 * x2.1.2.2.2.2.2.2.2.1)+w64 (60 * r31))) fun v37 =>
 (lt (w64 (x2.1.2.2.2.2.2.1 * w64 (v37+r34))) fun v38 =>
 K v38 r35 true))))))
 else
 False)
 else
 False)))
 else
 (if (x2.1.2.2.2.2.2.2.1 == 0) then
 K 0 x2.1.1 false
 else
 (if 0≤(↑(ByteArray.size x2.1.2.2.2.2.1):Int)∧(↑(ByteArray.size x2.1.2.2.2.2.1):Int)≤(↑(ByteArray.size x2.1.2.2.2.2.1):Int) then
 (if 0≤x2.1.2.2.2.2.2.2.1∧x2.1.2.2.2.2.2.2.1≤(↑(ByteArray.size x2.1.2.2.2.2.1):Int) then
 xq2e (ByteArray.extract x2.1.2.2.2.2.1 (Int.toNat x2.1.2.2.2.2.2.2.1) (Int.toNat (↑(ByteArray.size x2.1.2.2.2.2.1):Int))) (fun r39 r40 =>
 (if decide (r39 < 0) then
 (lt (w64 (w64 (x2.1.2.2.2.2.2.1 * 3600) * x2.1.2.2.2.2.2.2.2.1)) fun v41 =>
 K v41 (ByteArray.extract x2.1.2.2.2.2.1 (Int.toNat x2.1.2.2.2.2.2.2.1) (Int.toNat (↑(ByteArray.size x2.1.2.2.2.2.1):Int))) true)
 else
 xq2e r40 (fun r42 r43 =>
 (if decide (r42 < 0) then
 (lt (w64 (w64 (3600 * x2.1.2.2.2.2.2.2.2.1)+w64 (60 * r39))) fun v44 =>
 K (w64 (x2.1.2.2.2.2.2.1 * v44)) r40 true)
 else
 (lt (w64 (w64 (3600 * x2.1.2.2.2.2.2.2.2.1)+w64 (60 * r39))) fun v45 =>
 (lt (w64 (x2.1.2.2.2.2.2.1 * w64 (v45+r42))) fun v46 =>
 K v46 r43 true))))))
 else
 False)
 else
 False)))
def Lq1v_0p:Lp:=⟨509,[.trim 509],upT124,.nil,0⟩
def Yq1v (xq2e:Tq2e) (a0:ByteArray) (K:Int→ByteArray→Bool→Prop):Prop :=
 (if decide ((↑(ByteArray.size a0):Int) > 0) then
 (if (0 :Int)≤0∧0 < (↑(ByteArray.size a0):Int) then
 (if (Eng.bAt a0 (0:Nat) == 45) then
 (if (0 :Int)≤0∧0 < (↑(ByteArray.size a0):Int) then
 (if (Eng.bAt a0 (0:Nat) == 45) then
 (if 0≤(↑(ByteArray.size a0):Int)∧(↑(ByteArray.size a0):Int)≤(↑(ByteArray.size a0):Int) then
 (if (0 :Int)≤1∧1≤(↑(ByteArray.size a0):Int) then
 lp (Lq1v_0 xq2e K) ((a0,0,ByteArray.mk #[],false,ByteArray.extract a0 (1:Nat) (Int.toNat (↑(ByteArray.size a0):Int)),(-1),0,0,()),())
 else
 False)
 else
 False)
 else
 (if 0≤(↑(ByteArray.size a0):Int)∧(↑(ByteArray.size a0):Int)≤(↑(ByteArray.size a0):Int) then
 (if (0 :Int)≤1∧1≤(↑(ByteArray.size a0):Int) then
 lp (Lq1v_0 xq2e K) ((a0,0,ByteArray.mk #[],false,ByteArray.extract a0 (1:Nat) (Int.toNat (↑(ByteArray.size a0):Int)),1,0,0,()),())
 else
 False)
 else
 False))
 else
 False)
 else
 (if (0 :Int)≤0∧0 < (↑(ByteArray.size a0):Int) then
 (if (Eng.bAt a0 (0:Nat) == 43) then
 (if (0 :Int)≤0∧0 < (↑(ByteArray.size a0):Int) then
 (if (Eng.bAt a0 (0:Nat) == 45) then
 (if 0≤(↑(ByteArray.size a0):Int)∧(↑(ByteArray.size a0):Int)≤(↑(ByteArray.size a0):Int) then
 (if (0 :Int)≤1∧1≤(↑(ByteArray.size a0):Int) then
 lp (Lq1v_0 xq2e K) ((a0,0,ByteArray.mk #[],false,ByteArray.extract a0 (1:Nat) (Int.toNat (↑(ByteArray.size a0):Int)),(-1),0,0,()),())
 else
 False)
 else
 False)
 else
 (if 0≤(↑(ByteArray.size a0):Int)∧(↑(ByteArray.size a0):Int)≤(↑(ByteArray.size a0):Int) then
 (if (0 :Int)≤1∧1≤(↑(ByteArray.size a0):Int) then
 lp (Lq1v_0 xq2e K) ((a0,0,ByteArray.mk #[],false,ByteArray.extract a0 (1:Nat) (Int.toNat (↑(ByteArray.size a0):Int)),1,0,0,()),())
 else
 False)
 else
 False))
 else
 False)
 else
 lp (Lq1v_0 xq2e K) ((a0,0,ByteArray.mk #[],false,a0,1,0,0,()),()))
 else
 False))
 else
 False)
 else
 lp (Lq1v_0 xq2e K) ((a0,0,ByteArray.mk #[],false,a0,1,0,0,()),()))
def Xq1v:Tq1v:=Yq1v Xq2e
def Jq1v (X:Tq1v):Inst:=mkI 160 upL106 .nil upL125 .nil X
def Iq1v:Inst:=Jq1v Xq1v
theorem Eq1v (xq2e:Tq2e):EqF Tryz.prog 116 gives Tryz.f160 [Jq2e xq2e] [Lq1v_0p] (Jq1v (Yq1v xq2e)):=fun x y K=>by kernel_rfl
theorem Iq1v_ok:InstOk Tryz.prog G.1 Iq1v:=iok (gives:=gives) [Lq1v_0p] (okCons Iq2e_ok okNil) 116 follows Tryz.func160 (by kernel_rfl) (fun x=>by kernel_rfl) (Eq1v Xq2e)
abbrev Tq24:Type:=uQ126→Bool→(Bool→Prop)→Prop
def Yq24 (xq1s:Tq1s) (a0:uQ126) (a1:Bool) (K:Bool→Prop):Prop :=
 xq1s a0.2.2.1 (fun r2 =>
 (if r2 then
 (if (a0.2.1 == a1) then
 (if decide (a0.1≥(-89999)) then
 K (decide (a0.1≤89999))
 else
 K false)
 else
 K false)
 else
 K false))
def Xq24:Tq24:=Yq24 Xq1s
def Jq24 (X:Tq24):Inst:=mkI 225 upL127 .nil upL9 .nil X
def Iq24:Inst:=Jq24 Xq24
theorem Eq24 (xq1s:Tq1s):EqF Tryz.prog 26 gives Tryz.f225 [Jq1s xq1s] [] (Jq24 (Yq24 xq1s)):=fun x y K=>by kernel_rfl
theorem Iq24_ok:InstOk Tryz.prog G.1 Iq24:=iok (gives:=gives) [] (okCons Iq1s_ok okNil) 26 follows Tryz.func225 (by kernel_rfl) (fun x=>by kernel_rfl) (Eq24 Xq1s)
abbrev Tq1n:Type:=uQ128→(Bool→Prop)→Prop
def Yq1n (a0:uQ128) (K:Bool→Prop):Prop :=
 (if decide (a0.2.2.2.2.1 < (-604799)) then
 K false
 else
 (if decide (a0.2.2.2.2.1 > 604799) then
 K false
 else
 (if (a0.1 == 0) then
 (if decide (a0.2.1≥1) then
 (if decide (a0.2.1≤12) then
 (if decide (a0.2.2.1≥1) then
 (if decide (a0.2.2.1≤5) then
 (if decide (a0.2.2.2.1≥0) then
 K (decide (a0.2.2.2.1≤6))
 else
 K false)
 else
 K false)
 else
 K false)
 else
 K false)
 else
 K false)
 else
 (if (a0.1 == 1) then
 (if decide (a0.2.1≥1) then
 (if decide (a0.2.1≤365) then
 (if (a0.2.2.1 == 0) then
 K (a0.2.2.2.1 == 0)
 else
 K false)
 else
 K false)
 else
 K false)
 else
 (if (a0.1 == 2) then
 (if decide (a0.2.1≥0) then
 (if decide (a0.2.1≤365) then
 (if (a0.2.2.1 == 0) then
 K (a0.2.2.2.1 == 0)
 else
 K false)
 else
 K false)
 else
 K false)
 else
 K false)))))
def Xq1n:Tq1n:=Yq1n
def Jq1n (X:Tq1n):Inst:=mkI 202 upL129 .nil upL9 .nil X
def Iq1n:Inst:=Jq1n Xq1n
theorem Eq1n:EqF Tryz.prog 83 gives Tryz.f202 [] [] (Jq1n (Yq1n)):=fun x y K=>by kernel_rfl
theorem Iq1n_ok:InstOk Tryz.prog G.1 Iq1n:=iok (gives:=gives) [] okNil 83 follows Tryz.func202 (by kernel_rfl) (fun x=>by kernel_rfl) (Eq1n)
abbrev Tq1p:Type:=uQ130→(Bool→Prop)→Prop
def Yq1p (xq24:Tq24) (xq1n:Tq1n) (a0:uQ130) (K:Bool→Prop):Prop :=
 (if (!a0.2.2.2.2.2.2.1) then
 xq24 (a0.1,a0.2.1,a0.2.2.1,()) false (fun r1 =>
 (if r1 then
 (lt (a0.2.2.2.1 == 0 && (a0.2.2.2.2.1 == false && (ByteArray.toList a0.2.2.2.2.2.1 == ByteArray.toList (ByteArray.mk #[]) && true))) fun v2 =>
 (if v2 then
 (lt (a0.2.2.2.2.2.2.2.1 == 0 && (a0.2.2.2.2.2.2.2.2.1 == 0 && (a0.2.2.2.2.2.2.2.2.2.1 == 0 && (a0.2.2.2.2.2.2.2.2.2.2.1 == 0 && (a0.2.2.2.2.2.2.2.2.2.2.2.1 == 0 && true))))) fun v3 =>
 (if v3 then
 (lt (a0.2.2.2.2.2.2.2.2.2.2.2.2.1 == 0 && (a0.2.2.2.2.2.2.2.2.2.2.2.2.2.1 == 0 && (a0.2.2.2.2.2.2.2.2.2.2.2.2.2.2.1 == 0 && (a0.2.2.2.2.2.2.2.2.2.2.2.2.2.2.2.1 == 0 && (a0.2.2.2.2.2.2.2.2.2.2.2.2.2.2.2.2.1 == 0 && true))))) fun v4 =>
 K v4)
 else
 K false))
 else
 K false))
 else
 K false))
 else
 xq1n (a0.2.2.2.2.2.2.2.1,a0.2.2.2.2.2.2.2.2.1,a0.2.2.2.2.2.2.2.2.2.1,a0.2.2.2.2.2.2.2.2.2.2.1,a0.2.2.2.2.2.2.2.2.2.2.2.1,()) (fun r5 =>
 xq1n a0.2.2.2.2.2.2.2.2.2.2.2.2 (fun r6 =>
 (if r5 then
 (if r6 then
 xq24 (a0.1,a0.2.1,a0.2.2.1,()) false (fun r7 =>
 (if r7 then
 xq24 (a0.2.2.2.1,a0.2.2.2.2.1,a0.2.2.2.2.2.1,()) true (fun r8 =>
 K r8)
 else
 K false))
 else
 K false)
 else
 K false))))
def Xq1p:Tq1p:=Yq1p Xq24 Xq1n
def Jq1p (X:Tq1p):Inst:=mkI 200 upL131 .nil upL9 .nil X
def Iq1p:Inst:=Jq1p Xq1p
theorem Eq1p (xq24:Tq24) (xq1n:Tq1n):EqF Tryz.prog 53 gives Tryz.f200 [Jq24 xq24,Jq1n xq1n] [] (Jq1p (Yq1p xq24 xq1n)):=fun x y K=>by kernel_rfl
theorem Iq1p_ok:InstOk Tryz.prog G.1 Iq1p:=iok (gives:=gives) [] (okCons Iq24_ok (okCons Iq1n_ok okNil)) 53 follows Tryz.func200 (by kernel_rfl) (fun x=>by kernel_rfl) (Eq1p Xq24 Xq1n)
abbrev Tq0n:Type:=uQ130→(uQ130→Bool→Prop)→Prop
def Yq0n (xq1p:Tq1p) (a0:uQ130) (K:uQ130→Bool→Prop):Prop :=
 xq1p a0 (fun r1 =>
 (if (!r1) then
 K (0,false,ByteArray.mk #[],0,false,ByteArray.mk #[],false,0,0,0,0,0,0,0,0,0,0,()) false
 else
 K a0 true))
def Xq0n:Tq0n:=Yq0n Xq1p
def Jq0n (X:Tq0n):Inst:=mkI 161 upL131 .nil upL132 .nil X
def Iq0n:Inst:=Jq0n Xq0n
theorem Eq0n (xq1p:Tq1p):EqF Tryz.prog 9 gives Tryz.f161 [Jq1p xq1p] [] (Jq0n (Yq0n xq1p)):=fun x y K=>by kernel_rfl
theorem Iq0n_ok:InstOk Tryz.prog G.1 Iq0n:=iok (gives:=gives) [] (okCons Iq1p_ok okNil) 9 follows Tryz.func161 (by kernel_rfl) (fun x=>by kernel_rfl) (Eq0n Xq1p)
abbrev Tq0x:Type:=ByteArray→Int→Int→Int→(Int→ByteArray→Prop)→Prop
def Lq0x_0 (K:Int→ByteArray→Prop):(uQ133→Prop)→uQ133→Prop:=fun k4 x5 =>
 (if decide (x5.1.2.2.2.2.2.2.2.1 < (↑(ByteArray.size x5.1.1):Int)) then
 (if 0≤x5.1.2.2.2.2.2.2.2.1∧x5.1.2.2.2.2.2.2.2.1 < (↑(ByteArray.size x5.1.1):Int) then
 (if decide (Eng.bAt x5.1.1 (Int.toNat x5.1.2.2.2.2.2.2.2.1)≥48) then
 (if 0≤x5.1.2.2.2.2.2.2.2.1∧x5.1.2.2.2.2.2.2.2.1 < (↑(ByteArray.size x5.1.1):Int) then
 (if decide (Eng.bAt x5.1.1 (Int.toNat x5.1.2.2.2.2.2.2.2.1)≤57) then
 (if decide (x5.1.2.2.2.2.2.2.2.1≤x5.1.2.2.1) then
 (if 0≤x5.1.2.2.2.2.2.2.2.1∧x5.1.2.2.2.2.2.2.2.1 < (↑(ByteArray.size x5.1.1):Int) then
 (lt (w64 (wu8 (Eng.bAt x5.1.1 (Int.toNat x5.1.2.2.2.2.2.2.2.1) - 48))) fun v6 =>
 (lt (w64 (w64 (10 * x5.1.2.2.2.2.2.2.1)+v6)) fun v7 =>
 k4 ((x5.1.1,x5.1.2.1,x5.1.2.2.1,x5.1.2.2.2.1,x5.1.2.2.2.2.1,x5.1.2.2.2.2.2.1,v7,w64 (x5.1.2.2.2.2.2.2.2.1+1),()),())))
 else
 False)
 else
 (if decide (x5.1.2.2.2.2.2.2.2.1 < x5.1.2.1) then
 K (-1) x5.1.1
 else
 (if decide (x5.1.2.2.2.2.2.2.2.1 > x5.1.2.2.1) then
 K (-1) x5.1.1
 else
 (if decide (x5.1.2.2.2.2.2.2.1 > x5.1.2.2.2.1) then
 K (-1) x5.1.1
 else
 (if 0≤(↑(ByteArray.size x5.1.1):Int)∧(↑(ByteArray.size x5.1.1):Int)≤(↑(ByteArray.size x5.1.1):Int) then
 (if 0≤x5.1.2.2.2.2.2.2.2.1∧x5.1.2.2.2.2.2.2.2.1≤(↑(ByteArray.size x5.1.1):Int) then
 K x5.1.2.2.2.2.2.2.1 (ByteArray.extract x5.1.1 (Int.toNat x5.1.2.2.2.2.2.2.2.1) (Int.toNat (↑(ByteArray.size x5.1.1):Int)))
 else
 False)
 else
 False)))))
 else
 (if decide (x5.1.2.2.2.2.2.2.2.1 < x5.1.2.1) then
 K (-1) x5.1.1
 else
 (if decide (x5.1.2.2.2.2.2.2.2.1 > x5.1.2.2.1) then
 K (-1) x5.1.1
 else
 (if decide (x5.1.2.2.2.2.2.2.1 > x5.1.2.2.2.1) then
 K (-1) x5.1.1
 else
 (if 0≤(↑(ByteArray.size x5.1.1):Int)∧(↑(ByteArray.size x5.1.1):Int)≤(↑(ByteArray.size x5.1.1):Int) then
 (if 0≤x5.1.2.2.2.2.2.2.2.1∧x5.1.2.2.2.2.2.2.2.1≤(↑(ByteArray.size x5.1.1):Int) then
 K x5.1.2.2.2.2.2.2.1 (ByteArray.extract x5.1.1 (Int.toNat x5.1.2.2.2.2.2.2.2.1) (Int.toNat (↑(ByteArray.size x5.1.1):Int)))
 else
 False)
 else
 False)))))
 else
 False)
 else
 (if decide (x5.1.2.2.2.2.2.2.2.1 < x5.1.2.1) then
 K (-1) x5.1.1
 else
 (if decide (x5.1.2.2.2.2.2.2.2.1 > x5.1.2.2.1) then
 K (-1) x5.1.1
 else
 (if decide (x5.1.2.2.2.2.2.2.1 > x5.1.2.2.2.1) then
 K (-1) x5.1.1
 else
 (if 0≤(↑(ByteArray.size x5.1.1):Int)∧(↑(ByteArray.size x5.1.1):Int)≤(↑(ByteArray.size x5.1.1):Int) then
 (if 0≤x5.1.2.2.2.2.2.2.2.1∧x5.1.2.2.2.2.2.2.2.1≤(↑(ByteArray.size x5.1.1):Int) then
 K x5.1.2.2.2.2.2.2.1 (ByteArray.extract x5.1.1 (Int.toNat x5.1.2.2.2.2.2.2.2.1) (Int.toNat (↑(ByteArray.size x5.1.1):Int)))
 else
 False)
 else
 False)))))
 else
 False)
 else
 (if decide (x5.1.2.2.2.2.2.2.2.1 < x5.1.2.1) then
 K (-1) x5.1.1
 else
 (if decide (x5.1.2.2.2.2.2.2.2.1 > x5.1.2.2.1) then
 K (-1) x5.1.1
 else
 (if decide (x5.1.2.2.2.2.2.2.1 > x5.1.2.2.2.1) then
 K (-1) x5.1.1
 else
 (if 0≤(↑(ByteArray.size x5.1.1):Int)∧(↑(ByteArray.size x5.1.1):Int)≤(↑(ByteArray.size x5.1.1):Int) then
 (if 0≤x5.1.2.2.2.2.2.2.2.1∧x5.1.2.2.2.2.2.2.2.1≤(↑(ByteArray.size x5.1.1):Int) then
 K x5.1.2.2.2.2.2.2.1 (ByteArray.extract x5.1.1 (Int.toNat x5.1.2.2.2.2.2.2.2.1) (Int.toNat (↑(ByteArray.size x5.1.1):Int)))
 else
 False)
 else
 False)))))
def Lq0x_0p:Lp:=⟨3855,[.trim 3855],upT134,.nil,0⟩
def Yq0x (a0:ByteArray) (a1:Int) (a2:Int) (a3:Int) (K:Int→ByteArray→Prop):Prop :=
 lp (Lq0x_0 K) ((a0,a1,a2,a3,0,ByteArray.mk #[],0,0,()),())
def Xq0x:Tq0x:=Yq0x
def Jq0x (X:Tq0x):Inst:=mkI 226 upL135 .nil upL122 .nil X
def Iq0x:Inst:=Jq0x Xq0x
theorem Eq0x:EqF Tryz.prog 61 gives Tryz.f226 [] [Lq0x_0p] (Jq0x (Yq0x)):=fun x y K=>by kernel_rfl
theorem Iq0x_ok:InstOk Tryz.prog G.1 Iq0x:=iok (gives:=gives) [Lq0x_0p] okNil 61 follows Tryz.func226 (by kernel_rfl) (fun x=>by kernel_rfl) (Eq0x)
abbrev Tq2b:Type:=ByteArray→(Int→ByteArray→Prop)→Prop
def Yq2b (xq0x:Tq0x) (a0:ByteArray) (K:Int→ByteArray→Prop):Prop :=
 (if decide ((↑(ByteArray.size a0):Int) < 1) then
 K (-1) a0
 else
 (if (0 :Int)≤0∧0 < (↑(ByteArray.size a0):Int) then
 (if (Eng.bAt a0 (0:Nat) != 46) then
 K (-1) a0
 else
 (if 0≤(↑(ByteArray.size a0):Int)∧(↑(ByteArray.size a0):Int)≤(↑(ByteArray.size a0):Int) then
 (if (0 :Int)≤1∧1≤(↑(ByteArray.size a0):Int) then
 xq0x (ByteArray.extract a0 (1:Nat) (Int.toNat (↑(ByteArray.size a0):Int))) 1 1 9 (fun r1 r2 =>
 K r1 r2)
 else
 False)
 else
 False))
 else
 False))
def Xq2b:Tq2b:=Yq2b Xq0x
def Jq2b (X:Tq2b):Inst:=mkI 227 upL106 .nil upL122 .nil X
def Iq2b:Inst:=Jq2b Xq2b
theorem Eq2b (xq0x:Tq0x):EqF Tryz.prog 18 gives Tryz.f227 [Jq0x xq0x] [] (Jq2b (Yq2b xq0x)):=fun x y K=>by kernel_rfl
theorem Iq2b_ok:InstOk Tryz.prog G.1 Iq2b:=iok (gives:=gives) [] (okCons Iq0x_ok okNil) 18 follows Tryz.func227 (by kernel_rfl) (fun x=>by kernel_rfl) (Eq2b Xq0x)
abbrev Tq20:Type:=ByteArray→(uQ128→ByteArray→Prop)→Prop
def Yq20 (xq0x:Tq0x) (xq2b:Tq2b) (a0:ByteArray) (K:uQ128→ByteArray→Prop):Prop :=
 (if decide ((↑(ByteArray.size a0):Int) > 0) then
 (if (0 :Int)≤0∧0 < (↑(ByteArray.size a0):Int) then
 (if (Eng.bAt a0 (0:Nat) == 77) then
 (if 0≤(↑(ByteArray.size a0):Int)∧(↑(ByteArray.size a0):Int)≤(↑(ByteArray.size a0):Int) then
 (if (0 :Int)≤1∧1≤(↑(ByteArray.size a0):Int) then
 xq0x (ByteArray.extract a0 (1:Nat) (Int.toNat (↑(ByteArray.size a0):Int))) 1 2 12 (fun r1 r2 =>
 xq2b r2 (fun r3 r4 =>
 xq2b r4 (fun r5 r6 =>
 K (0,r1,r3,r5,7200,()) r6)))
 else
 False)
 else
 False)
 else
 (if decide ((↑(ByteArray.size a0):Int) > 0) then
 (if (0 :Int)≤0∧0 < (↑(ByteArray.size a0):Int) then
 (if (Eng.bAt a0 (0:Nat) == 74) then
 (if 0≤(↑(ByteArray.size a0):Int)∧(↑(ByteArray.size a0):Int)≤(↑(ByteArray.size a0):Int) then
 (if (0 :Int)≤1∧1≤(↑(ByteArray.size a0):Int) then
 xq0x (ByteArray.extract a0 (1:Nat) (Int.toNat (↑(ByteArray.size a0):Int))) 1 3 365 (fun r7 r8 =>
 K (1,r7,0,0,7200,()) r8)
 else
 False)
 else
 False)
 else
 xq0x a0 1 3 365 (fun r9 r10 =>
 K (2,r9,0,0,7200,()) r10))
 else
 False)
 else
 xq0x a0 1 3 365 (fun r11 r12 =>
 K (2,r11,0,0,7200,()) r12)))
 else
 False)
 else
 (if decide ((↑(ByteArray.size a0):Int) > 0) then
 (if (0 :Int)≤0∧0 < (↑(ByteArray.size a0):Int) then
 (if (Eng.bAt a0 (0:Nat) == 74) then
 (if 0≤(↑(ByteArray.size a0):Int)∧(↑(ByteArray.size a0):Int)≤(↑(ByteArray.size a0):Int) then
 (if (0 :Int)≤1∧1≤(↑(ByteArray.size a0):Int) then
 xq0x (ByteArray.extract a0 (1:Nat) (Int.toNat (↑(ByteArray.size a0):Int))) 1 3 365 (fun r13 r14 =>
 K (1,r13,0,0,7200,()) r14)
 else
 False)
 else
 False)
 else
 xq0x a0 1 3 365 (fun r15 r16 =>
 K (2,r15,0,0,7200,()) r16))
 else
 False)
 else
 xq0x a0 1 3 365 (fun r17 r18 =>
 K (2,r17,0,0,7200,()) r18)))
def Xq20:Tq20:=Yq20 Xq0x Xq2b
def Jq20 (X:Tq20):Inst:=mkI 201 upL106 .nil upL136 .nil X
def Iq20:Inst:=Jq20 Xq20
theorem Eq20 (xq0x:Tq0x) (xq2b:Tq2b):EqF Tryz.prog 67 gives Tryz.f201 [Jq0x xq0x,Jq2b xq2b] [] (Jq20 (Yq20 xq0x xq2b)):=fun x y K=>by kernel_rfl
theorem Iq20_ok:InstOk Tryz.prog G.1 Iq20:=iok (gives:=gives) [] (okCons Iq0x_ok (okCons Iq2b_ok okNil)) 67 follows Tryz.func201 (by kernel_rfl) (fun x=>by kernel_rfl) (Eq20 Xq0x Xq2b)
abbrev Tq19:Type:=ByteArray→(uQ128→ByteArray→Bool→Prop)→Prop
def Yq19 (xq20:Tq20) (xq1n:Tq1n) (xq1v:Tq1v) (a0:ByteArray) (K:uQ128→ByteArray→Bool→Prop):Prop :=
 xq20 a0 (fun r1 r2 =>
 xq1n r1 (fun r3 =>
 (if (!r3) then
 K (0,0,0,0,0,()) a0 false
 else
 (if decide ((↑(ByteArray.size r2):Int) > 0) then
 (if (0 :Int)≤0∧0 < (↑(ByteArray.size r2):Int) then
 (if (Eng.bAt r2 (0:Nat) == 47) then
 (if 0≤(↑(ByteArray.size r2):Int)∧(↑(ByteArray.size r2):Int)≤(↑(ByteArray.size r2):Int) then
 (if (0 :Int)≤1∧1≤(↑(ByteArray.size r2):Int) then
 xq1v (ByteArray.extract r2 (1:Nat) (Int.toNat (↑(ByteArray.size r2):Int))) (fun r4 r5 r6 =>
 (if (!r6) then
 K (0,0,0,0,0,()) a0 false
 else
 K (r1.1,r1.2.1,r1.2.2.1,r1.2.2.2.1,r4,()) r5 true))
 else
 False)
 else
 False)
 else
 K r1 r2 true)
 else
 False)
 else
 K r1 r2 true))))
def Xq19:Tq19:=Yq19 Xq20 Xq1n Xq1v
def Jq19 (X:Tq19):Inst:=mkI 162 upL106 .nil upL137 .nil X
def Iq19:Inst:=Jq19 Xq19
theorem Eq19 (xq20:Tq20) (xq1n:Tq1n) (xq1v:Tq1v):EqF Tryz.prog 44 gives Tryz.f162 [Jq20 xq20,Jq1n xq1n,Jq1v xq1v] [] (Jq19 (Yq19 xq20 xq1n xq1v)):=fun x y K=>by kernel_rfl
theorem Iq19_ok:InstOk Tryz.prog G.1 Iq19:=iok (gives:=gives) [] (okCons Iq20_ok (okCons Iq1n_ok (okCons Iq1v_ok okNil))) 44 follows Tryz.func162 (by kernel_rfl) (fun x=>by kernel_rfl) (Eq19 Xq20 Xq1n Xq1v)
abbrev Tq1f:Type:=ByteArray→(uQ130→Bool→Prop)→Prop
def Yq1f (xq1y:Tq1y) (xq1v:Tq1v) (xq0n:Tq0n) (xq19:Tq19) (a0:ByteArray) (K:uQ130→Bool→Prop):Prop :=
 xq1y a0 (fun r1 r2 r3 =>
 xq1v r2 (fun r4 r5 r6 =>
 (if (!r3) then
 K (0,false,ByteArray.mk #[],0,false,ByteArray.mk #[],false,0,0,0,0,0,0,0,0,0,0,()) false
 else
 (if (!r6) then
 K (0,false,ByteArray.mk #[],0,false,ByteArray.mk #[],false,0,0,0,0,0,0,0,0,0,0,()) false
 else
 (if (ByteArray.toList r5 == ByteArray.toList (ByteArray.mk #[])) then
 xq0n (w64 (0 - r4),false,r1,0,false,ByteArray.mk #[],false,0,0,0,0,0,0,0,0,0,0,()) (fun r7 r8 =>
 K r7 r8)
 else
 xq1y r5 (fun r9 r10 r11 =>
 (lt (w64 (w64 (0 - r4)+3600)) fun v12 =>
 xq1v r10 (fun r13 r14 r15 =>
 (if r15 then
 (if (!r11) then
 K (0,false,ByteArray.mk #[],0,false,ByteArray.mk #[],false,0,0,0,0,0,0,0,0,0,0,()) false
 else
 (if ((↑(ByteArray.size r14):Int) == 0) then
 K (0,false,ByteArray.mk #[],0,false,ByteArray.mk #[],false,0,0,0,0,0,0,0,0,0,0,()) false
 else
 (if (0 :Int)≤0∧0 < (↑(ByteArray.size r14):Int) then
 (if (Eng.bAt r14 (0:Nat) != 44) then
 K (0,false,ByteArray.mk #[],0,false,ByteArray.mk #[],false,0,0,0,0,0,0,0,0,0,0,()) false
 else
 (if 0≤(↑(ByteArray.size r14):Int)∧(↑(ByteArray.size r14):Int)≤(↑(ByteArray.size r14):Int) then
 (if (0 :Int)≤1∧1≤(↑(ByteArray.size r14):Int) then
 xq19 (ByteArray.extract r14 (1:Nat) (Int.toNat (↑(ByteArray.size r14):Int))) (fun r16 r17 r18 =>
 (if (!r18) then
 K (0,false,ByteArray.mk #[],0,false,ByteArray.mk #[],false,0,0,0,0,0,0,0,0,0,0,()) false
 else
 (if ((↑(ByteArray.size r17):Int) == 0) then
 K (0,false,ByteArray.mk #[],0,false,ByteArray.mk #[],false,0,0,0,0,0,0,0,0,0,0,()) false
 else
 (if (0 :Int)≤0∧0 < (↑(ByteArray.size r17):Int) then
 (if (Eng.bAt r17 (0:Nat) != 44) then
 K (0,false,ByteArray.mk #[],0,false,ByteArray.mk #[],false,0,0,0,0,0,0,0,0,0,0,()) false
 else
 (if 0≤(↑(ByteArray.size r17):Int)∧(↑(ByteArray.size r17):Int)≤(↑(ByteArray.size r17):Int) then
 (if (0 :Int)≤1∧1≤(↑(ByteArray.size r17):Int) then
 xq19 (ByteArray.extract r17 (1:Nat) (Int.toNat (↑(ByteArray.size r17):Int))) (fun r19 r20 r21 =>
 (if (!r21) then
 K (0,false,ByteArray.mk #[],0,false,ByteArray.mk #[],false,0,0,0,0,0,0,0,0,0,0,()) false
 else
 (if (!ByteArray.toList r20 == ByteArray.toList (ByteArray.mk #[])) then
 K (0,false,ByteArray.mk #[],0,false,ByteArray.mk #[],false,0,0,0,0,0,0,0,0,0,0,()) false
 else
 xq0n (w64 (0 - r4),false,r1,w64 (0 - r13),true,r9,true,r16.1,r16.2.1,r16.2.2.1,r16.2.2.2.1,r16.2.2.2.2.1,r19) (fun r22 r23 =>
 K r22 r23))))
 else
 False)
 else
 False))
 else
 False))))
 else
 False)
 else
 False))
 else
 False)))
 else
 (if (!r11) then
 K (0,false,ByteArray.mk #[],0,false,ByteArray.mk #[],false,0,0,0,0,0,0,0,0,0,0,()) false
 else
 (if ((↑(ByteArray.size r14):Int) == 0) then
 K (0,false,ByteArray.mk #[],0,false,ByteArray.mk #[],false,0,0,0,0,0,0,0,0,0,0,()) false
 else
 (if (0 :Int)≤0∧0 < (↑(ByteArray.size r14):Int) then
 (if (Eng.bAt r14 (0:Nat) != 44) then
 K (0,false,ByteArray.mk #[],0,false,ByteArray.mk #[],false,0,0,0,0,0,0,0,0,0,0,()) false
 else
 (if 0≤(↑(ByteArray.size r14):Int)∧(↑(ByteArray.size r14):Int)≤(↑(ByteArray.size r14):Int) then
 (if (0 :Int)≤1∧1≤(↑(ByteArray.size r14):Int) then
 xq19 (ByteArray.extract r14 (1:Nat) (Int.toNat (↑(ByteArray.size r14):Int))) (fun r24 r25 r26 =>
 (if (!r26) then
 K (0,false,ByteArray.mk #[],0,false,ByteArray.mk #[],false,0,0,0,0,0,0,0,0,0,0,()) false
 else
 (if ((↑(ByteArray.size r25):Int) == 0) then
 K (0,false,ByteArray.mk #[],0,false,ByteArray.mk #[],false,0,0,0,0,0,0,0,0,0,0,()) false
 else
 (if (0 :Int)≤0∧0 < (↑(ByteArray.size r25):Int) then
 (if (Eng.bAt r25 (0:Nat) != 44) then
 K (0,false,ByteArray.mk #[],0,false,ByteArray.mk #[],false,0,0,0,0,0,0,0,0,0,0,()) false
 else
 (if 0≤(↑(ByteArray.size r25):Int)∧(↑(ByteArray.size r25):Int)≤(↑(ByteArray.size r25):Int) then
 (if (0 :Int)≤1∧1≤(↑(ByteArray.size r25):Int) then
 xq19 (ByteArray.extract r25 (1:Nat) (Int.toNat (↑(ByteArray.size r25):Int))) (fun r27 r28 r29 =>
 (if (!r29) then
 K (0,false,ByteArray.mk #[],0,false,ByteArray.mk #[],false,0,0,0,0,0,0,0,0,0,0,()) false
 else
 (if (!ByteArray.toList r28 == ByteArray.toList (ByteArray.mk #[])) then
 K (0,false,ByteArray.mk #[],0,false,ByteArray.mk #[],false,0,0,0,0,0,0,0,0,0,0,()) false
 else
 xq0n (w64 (0 - r4),false,r1,v12,true,r9,true,r24.1,r24.2.1,r24.2.2.1,r24.2.2.2.1,r24.2.2.2.2.1,r27) (fun r30 r31 =>
 K r30 r31))))
 else
 False)
 else
 False))
 else
 False))))
 else
 False)
 else
 False))
 else
 False))))))))))))
def Xq1f:Tq1f:=Yq1f Xq1y Xq1v Xq0n Xq19
def Jq1f (X:Tq1f):Inst:=mkI 102 upL106 .nil upL132 .nil X
def Iq1f:Inst:=Jq1f Xq1f
theorem Eq1f (xq1y:Tq1y) (xq1v:Tq1v) (xq0n:Tq0n) (xq19:Tq19):EqF Tryz.prog 133 gives Tryz.f102 [Jq1y xq1y,Jq1v xq1v,Jq0n xq0n,Jq19 xq19] [] (Jq1f (Yq1f xq1y xq1v xq0n xq19)):=fun x y K=>by kernel_rfl
theorem Iq1f_ok:InstOk Tryz.prog G.1 Iq1f:=iok (gives:=gives) [] (okCons Iq1y_ok (okCons Iq1v_ok (okCons Iq0n_ok (okCons Iq19_ok okNil)))) 133 follows Tryz.func102 (by kernel_rfl) (fun x=>by kernel_rfl) (Eq1f Xq1y Xq1v Xq0n Xq19)
abbrev Tq1a:Type:=uQ58→(Bool→Prop)→Prop
def Lq1a_1 (xq1f:Tq1f) (K:Bool→Prop) (k6:uQ138→Prop):(uQ138→Prop)→uQ138→Prop:=fun k10 x11 =>
 (if decide (x11.1.2.2.1 < (↑(List.length x11.2.1.2.1):Int)) then
 (if 0≤x11.1.2.2.1∧x11.1.2.2.1 < (↑(List.length x11.2.1.2.1):Int) then
 (Eng.asInt IntKind.i64 (Eng.getC x11.2.1.2.1 (Int.toNat x11.1.2.2.1) (1:Nat)) False fun n12 =>
 (if decide (n12 < 0) then
 K false
 else
 (if 0≤x11.1.2.2.1∧x11.1.2.2.1 < (↑(List.length x11.2.1.2.1):Int) then
 (Eng.asInt IntKind.i64 (Eng.getC x11.2.1.2.1 (Int.toNat x11.1.2.2.1) (1:Nat)) False fun n13 =>
 (if decide (n13≥(↑(List.length x11.2.1.1):Int)) then
 K false
 else
 (if decide (x11.1.2.2.1 > 0) then
 (if 0≤x11.1.2.2.1∧x11.1.2.2.1 < (↑(List.length x11.2.1.2.1):Int) then
 (Eng.asInt IntKind.i64 (Eng.getC x11.2.1.2.1 (Int.toNat x11.1.2.2.1) (0:Nat)) False fun n14 =>
 (if 0≤w64 (x11.1.2.2.1 - 1)∧w64 (x11.1.2.2.1 - 1) < (↑(List.length x11.2.1.2.1):Int) then
 (Eng.asInt IntKind.i64 (Eng.getC x11.2.1.2.1 (Int.toNat (w64 (x11.1.2.2.1 - 1))) (0:Nat)) False fun n15 =>
 (if decide (n14≤n15) then
 K false
 else
 k10 (((),x11.1.2.1,w64 (x11.1.2.2.1+1),()),x11.2)))
 else
 False))
 else
 False)
 else
 k10 (((),x11.1.2.1,w64 (x11.1.2.2.1+1),()),x11.2))))
 else
 False)))
 else
 False)
 else
 (if (ByteArray.toList x11.2.1.2.2.2.1 == ByteArray.toList (ByteArray.mk #[])) then
 K true
 else
 xq1f x11.2.1.2.2.2.1 (fun r16 r17 =>
 (if decide (r16.2.2.2.2.2.2.2.2.2.2.2.1 < 0) then
 (if r17 then
 (if decide (x11.2.1.2.2.2.2.1 > 1) then
 K (decide (x11.2.1.2.2.2.2.1 > 2))
 else
 K false)
 else
 K false)
 else
 (if decide (r16.2.2.2.2.2.2.2.2.2.2.2.1 > 86400) then
 (if r17 then
 (if decide (x11.2.1.2.2.2.2.1 > 1) then
 K (decide (x11.2.1.2.2.2.2.1 > 2))
 else
 K false)
 else
 K false)
 else
 (if decide (r16.2.2.2.2.2.2.2.2.2.2.2.2.2.2.2.2.1 < 0) then
 (if r17 then
 (if decide (x11.2.1.2.2.2.2.1 > 1) then
 K (decide (x11.2.1.2.2.2.2.1 > 2))
 else
 K false)
 else
 K false)
 else
 (if r17 then
 (if decide (x11.2.1.2.2.2.2.1 > 1) then
 (if (!decide (r16.2.2.2.2.2.2.2.2.2.2.2.2.2.2.2.2.1 > 86400)) then
 K true
 else
 K (decide (x11.2.1.2.2.2.2.1 > 2)))
 else
 K false)
 else
 K false)))))))
def Lq1a_1p:Lp:=⟨518,[.trim 518],upT139,upH140,0⟩
def Lq1a_0 (xq1f:Tq1f) (K:Bool→Prop):(uQ138→Prop)→uQ138→Prop:=fun k6 x7 =>
 (if decide (x7.1.2.2.1 < (↑(List.length x7.2.1.1):Int)) then
 (if 0≤x7.1.2.2.1∧x7.1.2.2.1 < (↑(List.length x7.2.1.1):Int) then
 (Eng.asInt IntKind.i64 (Eng.getC x7.2.1.1 (Int.toNat x7.1.2.2.1) (0:Nat)) False fun n8 =>
 (if decide (n8 < (-89999)) then
 K false
 else
 (if 0≤x7.1.2.2.1∧x7.1.2.2.1 < (↑(List.length x7.2.1.1):Int) then
 (Eng.asInt IntKind.i64 (Eng.getC x7.2.1.1 (Int.toNat x7.1.2.2.1) (0:Nat)) False fun n9 =>
 (if decide (n9 > 93599) then
 K false
 else
 k6 (((),x7.1.2.1,w64 (x7.1.2.2.1+1),()),x7.2)))
 else
 False)))
 else
 False)
 else
 lp (Lq1a_1 xq1f K k6) (((),x7.1.2.1,0,()),x7.2))
def Lq1a_0p:Lp:=⟨262,[.trim 262],upT141,upH140,0⟩
def Yq1a (xq1t:Tq1t) (xq1h:Tq1h) (xq11:Tq11) (xq1f:Tq1f) (a0:uQ58) (K:Bool→Prop):Prop :=
 xq1t a0 (fun r1 r2 =>
 xq1h a0.2.2.1 (fun r3 =>
 xq11 a0.2.2.1 (fun r4 r5 =>
 (if (!r2) then
 K false
 else
 (if (!r3) then
 K false
 else
 (if r5 then
 (if (a0.2.2.2.2.1 != 4) then
 K false
 else
 lp (Lq1a_0 xq1f K) (((),false,0,()),a0,()))
 else
 lp (Lq1a_0 xq1f K) (((),false,0,()),a0,())))))))
def Xq1a:Tq1a:=Yq1a Xq1t Xq1h Xq11 Xq1f
def Jq1a (X:Tq1a):Inst:=mkI 41 upL74 .nil upL9 .nil X
def Iq1a:Inst:=Jq1a Xq1a
theorem Eq1a (xq1t:Tq1t) (xq1h:Tq1h) (xq11:Tq11) (xq1f:Tq1f):EqF Tryz.prog 156 gives Tryz.f41 [Jq1t xq1t,Jq1h xq1h,Jq11 xq11,Jq1f xq1f] [Lq1a_0p,Lq1a_1p] (Jq1a (Yq1a xq1t xq1h xq11 xq1f)):=fun x y K=>by kernel_rfl
theorem Iq1a_ok:InstOk Tryz.prog G.1 Iq1a:=iok (gives:=gives) [Lq1a_0p,Lq1a_1p] (okCons Iq1t_ok (okCons Iq1h_ok (okCons Iq11_ok (okCons Iq1f_ok okNil)))) 156 follows Tryz.func41 (by kernel_rfl) (fun x=>by kernel_rfl) (Eq1a Xq1t Xq1h Xq11 Xq1f)
abbrev Tq1x:Type:=Int→Int→(Bool→Prop)→Prop
def Yq1x (a0:Int) (a1:Int) (K:Bool→Prop):Prop :=
 (if (a1 == 1) then
 (if decide (a0≥0) then
 K (decide (a0≤255))
 else
 K false)
 else
 (if (a1 == 4) then
 (if decide (a0≥(-2147483648)) then
 K (decide (a0 < 2147483648))
 else
 K false)
 else
 K (a1 == 8)))
def Xq1x:Tq1x:=Yq1x
def Jq1x (X:Tq1x):Inst:=mkI 163 upL8 .nil upL9 .nil X
def Iq1x:Inst:=Jq1x Xq1x
theorem Eq1x:EqF Tryz.prog 24 gives Tryz.f163 [] [] (Jq1x (Yq1x)):=fun x y K=>by kernel_rfl
theorem Iq1x_ok:InstOk Tryz.prog G.1 Iq1x:=iok (gives:=gives) [] okNil 24 follows Tryz.func163 (by kernel_rfl) (fun x=>by kernel_rfl) (Eq1x)
abbrev Tq2a:Type:=(List Eng.V)→Int→Int→(Bool→(List Eng.V)→Bool→Bool→Prop)→Prop
def Lq2a_0 (K:Bool→(List Eng.V)→Bool→Bool→Prop):(uQ142→Prop)→uQ142→Prop:=fun k4 x5 =>
 (if decide (x5.1.2.2.2.2.1≥0) then
 (if w64 (8 * x5.1.2.2.2.2.1) < 0 then
 False
 else
 (lt (wu8 (Int.fdiv x5.1.1 (2 ^ Min.min (Int.toNat (w64 (8 * x5.1.2.2.2.2.1))) (64:Nat)))) fun v6 =>
 (if Eng.roomOk (List.length x5.2.1+List.length [Eng.V.c (Value.int IntKind.u8 v6)]) (1:Nat) then
 k4 ((x5.1.1,(),x5.1.2.2.1,(),w64 (x5.1.2.2.2.2.1 - 1),()),x5.2.1++[Eng.V.c (Value.int IntKind.u8 v6)],())
 else
 False)))
 else
 K true x5.2.1 true false)
def Lq2a_0p:Lp:=⟨962,[.trim 962],upT143,upH144,0⟩
def Yq2a (xq1x:Tq1x) (a0:(List Eng.V)) (a1:Int) (a2:Int) (K:Bool→(List Eng.V)→Bool→Bool→Prop):Prop :=
 (if Eng.roomOk ((0:Nat)+List.length a0) (1:Nat) then
 xq1x a1 a2 (fun r3 =>
 (if (!r3) then
 K false ([]++a0) true false
 else
 lp (Lq2a_0 K) ((a1,(),false,(),w64 (a2 - 1),()),[]++a0,())))
 else
 False)
def Xq2a:Tq2a:=Yq2a Xq1x
def Jq2a (X:Tq2a):Inst:=mkI 106 upL50 .nil upL51 upH5 X
def Iq2a:Inst:=Jq2a Xq2a
theorem Eq2a (xq1x:Tq1x):EqF Tryz.prog 33 gives Tryz.f106 [Jq1x xq1x] [Lq2a_0p] (Jq2a (Yq2a xq1x)):=fun x y K=>by kernel_rfl
theorem Iq2a_ok:InstOk Tryz.prog G.1 Iq2a:=iok (gives:=gives) [Lq2a_0p] (okCons Iq1x_ok okNil) 33 follows Tryz.func106 (by kernel_rfl) (fun x=>by kernel_rfl) (Eq2a Xq1x)
abbrev Tq10:Type:=uQ0→(Bool→(List Eng.V)→Bool→Bool→Prop)→Prop
def Lq10_1 (xq2a:Tq2a) (K:Bool→(List Eng.V)→Bool→Bool→Prop) (k2:uQ145→Prop):(uQ146→Prop)→uQ146→Prop:=fun k4 x5 =>
 (if decide (x5.1.2.2.2.2.1 < (↑(List.length x5.2.2.1.1):Int)) then
 (if 0≤x5.1.2.2.2.2.1∧x5.1.2.2.2.2.1 < (↑(List.length x5.2.2.1.1):Int) then
 (Eng.asInt IntKind.i64 (Eng.getC x5.2.2.1.1 (Int.toNat x5.1.2.2.2.2.1) (0:Nat)) False fun n6 =>
 xq2a x5.2.1.1 n6 4 (fun r7 r8 r9 r10 =>
 k4 (((),x5.1.2.1,(),(),w64 (x5.1.2.2.2.2.1+1),()),(r8,r9,r10),x5.2.2)))
 else
 False)
 else
 K true x5.2.1.1 x5.2.1.2.1 x5.2.1.2.2)
def Lq10_1p:Lp:=⟨412,[.trim 412,.ren 976 272],upT147,upH148,0⟩
def Lq10_0 (xq2a:Tq2a) (K:Bool→(List Eng.V)→Bool→Bool→Prop):(uQ145→Prop)→uQ145→Prop:=fun k2 x3 =>
 (if decide (x3.1.2.2.2.2.1 < 15) then
 (if Eng.roomOk (List.length x3.2.2.1+(1:Nat)) (1:Nat) then
 k2 (((),(),x3.1.2.2.1,(),w64 (x3.1.2.2.2.2.1+1),()),x3.2.1,x3.2.2.1++[Eng.V.c (Value.int IntKind.u8 0)],())
 else
 False)
 else
 lp (Lq10_1 xq2a K k2) (((),x3.1.2.2.1,(),(),0,()),(x3.2.2.1,true,false),([Eng.V.c (Value.int IntKind.i64 x3.2.1.2.1),Eng.V.c (Value.int IntKind.i64 x3.2.1.2.2.1),Eng.V.c (Value.int IntKind.i64 x3.2.1.2.2.2.1),Eng.V.c (Value.int IntKind.i64 x3.2.1.2.2.2.2.1),Eng.V.c (Value.int IntKind.i64 x3.2.1.2.2.2.2.2.1),Eng.V.c (Value.int IntKind.i64 x3.2.1.2.2.2.2.2.2.1)],true,false),()))
def Lq10_0p:Lp:=⟨94,[.trim 94],upT149,upH150,0⟩
def Yq10 (xq1r:Tq1r) (xq2a:Tq2a) (a0:uQ0) (K:Bool→(List Eng.V)→Bool→Bool→Prop):Prop :=
 xq1r a0 (fun r1 =>
 (if (!r1) then
 K false [] true true
 else
 (if decide (a0.1 > 1) then
 lp (Lq10_0 xq2a K) (((),(),false,(),0,()),a0,[Eng.V.c (Value.int IntKind.u8 84),Eng.V.c (Value.int IntKind.u8 90),Eng.V.c (Value.int IntKind.u8 105),Eng.V.c (Value.int IntKind.u8 102),Eng.V.c (Value.int IntKind.u8 (wu8 (w64 (48+a0.1))))],())
 else
 lp (Lq10_0 xq2a K) (((),(),false,(),0,()),a0,[Eng.V.c (Value.int IntKind.u8 84),Eng.V.c (Value.int IntKind.u8 90),Eng.V.c (Value.int IntKind.u8 105),Eng.V.c (Value.int IntKind.u8 102),Eng.V.c (Value.int IntKind.u8 0)],()))))
def Xq10:Tq10:=Yq10 Xq1r Xq2a
def Jq10 (X:Tq10):Inst:=mkI 43 upL55 .nil upL51 upH5 X
def Iq10:Inst:=Jq10 Xq10
theorem Eq10 (xq1r:Tq1r) (xq2a:Tq2a):EqF Tryz.prog 61 gives Tryz.f43 [Jq1r xq1r,Jq2a xq2a] [Lq10_0p,Lq10_1p] (Jq10 (Yq10 xq1r xq2a)):=fun x y K=>by kernel_rfl
theorem Iq10_ok:InstOk Tryz.prog G.1 Iq10:=iok (gives:=gives) [Lq10_0p,Lq10_1p] (okCons Iq1r_ok (okCons Iq2a_ok okNil)) 61 follows Tryz.func43 (by kernel_rfl) (fun x=>by kernel_rfl) (Eq10 Xq1r Xq2a)
end Go.Proofs.YtbnpclndiichcaaGreatDoor
end
section
set_option linter.unusedVariables false
set_option linter.unusedSimpArgs false
namespace Go.Proofs.YtbnpclndiichcaaGreatDoor
open Go Go.Proofs.YtbnpclndiichcaaGreatDoor.Eng
set_option maxRecDepth 100000
set_option maxHeartbeats 4000000
variable {G:Gs}
abbrev Tq0y:Type:=uQ58→Int→(Bool→(List Eng.V)→Bool→Bool→Prop)→Prop
def Lq0y_3 (xq2a:Tq2a) (K:Bool→(List Eng.V)→Bool→Bool→Prop) (k12:uQ151→Prop) (k19:uQ151→Prop) (k26:uQ151→Prop):(uQ152→Prop)→uQ152→Prop:=fun k75 x76 =>
 (if decide (x76.1.2.2.2.2.2.2.1 < (↑(List.length x76.2.1.2.2.1):Int)) then
 (if 0≤x76.1.2.2.2.2.2.2.1∧x76.1.2.2.2.2.2.2.1 < (↑(List.length x76.2.1.2.2.1):Int) then
 (Eng.asInt IntKind.i64 (Eng.getC x76.2.1.2.2.1 (Int.toNat x76.1.2.2.2.2.2.2.1) (0:Nat)) False fun n77 =>
 xq2a x76.2.2.1.1 n77 x76.1.1 (fun r78 r79 r80 r81 =>
 (if x76.1.2.2.2.2.2.1 then
 (if 0≤x76.1.2.2.2.2.2.2.1∧x76.1.2.2.2.2.2.2.1 < (↑(List.length x76.2.1.2.2.1):Int) then
 (Eng.asInt IntKind.i64 (Eng.getC x76.2.1.2.2.1 (Int.toNat x76.1.2.2.2.2.2.2.1) (1:Nat)) False fun n82 =>
 xq2a r79 n82 4 (fun r83 r84 r85 r86 =>
 (if r78 then
 k75 ((x76.1.1,(),(),x76.1.2.2.2.1,(),r83,w64 (x76.1.2.2.2.2.2.2.1+1),()),x76.2.1,(r84,r85,r86),())
 else
 k75 ((x76.1.1,(),(),x76.1.2.2.2.1,(),false,w64 (x76.1.2.2.2.2.2.2.1+1),()),x76.2.1,(r84,r85,r86),()))))
 else
 False)
 else
 (if 0≤x76.1.2.2.2.2.2.2.1∧x76.1.2.2.2.2.2.2.1 < (↑(List.length x76.2.1.2.2.1):Int) then
 (Eng.asInt IntKind.i64 (Eng.getC x76.2.1.2.2.1 (Int.toNat x76.1.2.2.2.2.2.2.1) (1:Nat)) False fun n87 =>
 xq2a r79 n87 4 (fun r88 r89 r90 r91 =>
 k75 ((x76.1.1,(),(),x76.1.2.2.2.1,(),false,w64 (x76.1.2.2.2.2.2.2.1+1),()),x76.2.1,(r89,r90,r91),())))
 else
 False))))
 else
 False)
 else
 (if (!x76.1.2.2.2.2.2.1) then
 K false [] true true
 else
 K true x76.2.2.1.1 x76.2.2.1.2.1 x76.2.2.1.2.2))
def Lq0y_3p:Lp:=⟨268342,[.trim 268342,.ren 2752 2912],upT153,upH154,0⟩
def Lq0y_2 (xq2a:Tq2a) (K:Bool→(List Eng.V)→Bool→Bool→Prop) (k12:uQ151→Prop) (k19:uQ151→Prop):(uQ151→Prop)→uQ151→Prop:=fun k26 x27 =>
 (if decide (x27.1.2.2.2.2.2.2.2.2.1 < (↑(List.length x27.2.1.1):Int)) then
 (if 0≤x27.1.2.2.2.2.2.2.2.2.1∧x27.1.2.2.2.2.2.2.2.2.1 < (↑(List.length x27.2.1.1):Int) then
 (Eng.asBool (Eng.getC x27.2.1.1 (Int.toNat x27.1.2.2.2.2.2.2.2.2.1) (1:Nat)) False fun b28 =>
 (if b28 then
 (if 0≤x27.1.2.2.2.2.2.2.2.2.1∧x27.1.2.2.2.2.2.2.2.2.1 < (↑(List.length x27.2.1.1):Int) then
 (Eng.asInt IntKind.i64 (Eng.getC x27.2.1.1 (Int.toNat x27.1.2.2.2.2.2.2.2.2.1) (0:Nat)) False fun n29 =>
 xq2a x27.2.2.2.1.1 n29 4 (fun r30 r31 r32 r33 =>
 (if x27.1.2.2.2.2.2.2.2.1 then
 xq2a r31 1 1 (fun r34 r35 r36 r37 =>
 (if 0≤x27.1.2.2.2.2.2.2.2.2.1∧x27.1.2.2.2.2.2.2.2.2.1 < (↑(List.length x27.2.2.1.1):Int) then
 (Eng.asInt IntKind.i64 (Eng.getC x27.2.2.1.1 (Int.toNat x27.1.2.2.2.2.2.2.2.2.1) (0:Nat)) False fun n38 =>
 xq2a r35 n38 1 (fun r39 r40 r41 r42 =>
 (if r30 then
 k26 ((x27.1.1,(),(),x27.1.2.2.2.1,x27.1.2.2.2.2.1,(),(),r39,w64 (x27.1.2.2.2.2.2.2.2.2.1+1),()),x27.2.1,x27.2.2.1,(r40,r41,r42),())
 else
 k26 ((x27.1.1,(),(),x27.1.2.2.2.1,x27.1.2.2.2.2.1,(),(),false,w64 (x27.1.2.2.2.2.2.2.2.2.1+1),()),x27.2.1,x27.2.2.1,(r40,r41,r42),()))))
 else
 False))
 else
 xq2a r31 1 1 (fun r43 r44 r45 r46 =>
 (if 0≤x27.1.2.2.2.2.2.2.2.2.1∧x27.1.2.2.2.2.2.2.2.2.1 < (↑(List.length x27.2.2.1.1):Int) then
 (Eng.asInt IntKind.i64 (Eng.getC x27.2.2.1.1 (Int.toNat x27.1.2.2.2.2.2.2.2.2.1) (0:Nat)) False fun n47 =>
 xq2a r44 n47 1 (fun r48 r49 r50 r51 =>
 k26 ((x27.1.1,(),(),x27.1.2.2.2.1,x27.1.2.2.2.2.1,(),(),false,w64 (x27.1.2.2.2.2.2.2.2.2.1+1),()),x27.2.1,x27.2.2.1,(r49,r50,r51),())))
 else
 False)))))
 else
 False)
 else
 (if 0≤x27.1.2.2.2.2.2.2.2.2.1∧x27.1.2.2.2.2.2.2.2.2.1 < (↑(List.length x27.2.1.1):Int) then
 (Eng.asInt IntKind.i64 (Eng.getC x27.2.1.1 (Int.toNat x27.1.2.2.2.2.2.2.2.2.1) (0:Nat)) False fun n52 =>
 xq2a x27.2.2.2.1.1 n52 4 (fun r53 r54 r55 r56 =>
 (if x27.1.2.2.2.2.2.2.2.1 then
 xq2a r54 0 1 (fun r57 r58 r59 r60 =>
 (if 0≤x27.1.2.2.2.2.2.2.2.2.1∧x27.1.2.2.2.2.2.2.2.2.1 < (↑(List.length x27.2.2.1.1):Int) then
 (Eng.asInt IntKind.i64 (Eng.getC x27.2.2.1.1 (Int.toNat x27.1.2.2.2.2.2.2.2.2.1) (0:Nat)) False fun n61 =>
 xq2a r58 n61 1 (fun r62 r63 r64 r65 =>
 (if r53 then
 k26 ((x27.1.1,(),(),x27.1.2.2.2.1,x27.1.2.2.2.2.1,(),(),r62,w64 (x27.1.2.2.2.2.2.2.2.2.1+1),()),x27.2.1,x27.2.2.1,(r63,r64,r65),())
 else
 k26 ((x27.1.1,(),(),x27.1.2.2.2.1,x27.1.2.2.2.2.1,(),(),false,w64 (x27.1.2.2.2.2.2.2.2.2.1+1),()),x27.2.1,x27.2.2.1,(r63,r64,r65),()))))
 else
 False))
 else
 xq2a r54 0 1 (fun r66 r67 r68 r69 =>
 (if 0≤x27.1.2.2.2.2.2.2.2.2.1∧x27.1.2.2.2.2.2.2.2.2.1 < (↑(List.length x27.2.2.1.1):Int) then
 (Eng.asInt IntKind.i64 (Eng.getC x27.2.2.1.1 (Int.toNat x27.1.2.2.2.2.2.2.2.2.1) (0:Nat)) False fun n70 =>
 xq2a r67 n70 1 (fun r71 r72 r73 r74 =>
 k26 ((x27.1.1,(),(),x27.1.2.2.2.1,x27.1.2.2.2.2.1,(),(),false,w64 (x27.1.2.2.2.2.2.2.2.2.1+1),()),x27.2.1,x27.2.2.1,(r72,r73,r74),())))
 else
 False)))))
 else
 False)))
 else
 False)
 else
 (if x27.2.2.2.1.2.1 then
 (if Eng.roomOk (List.length x27.2.2.2.1.1+List.length (Eng.bytesV x27.1.2.2.2.2.1)) (1:Nat) then
 lp (Lq0y_3 xq2a K k12 k19 k26) ((x27.1.1,(),(),x27.1.2.2.2.1,(),x27.1.2.2.2.2.2.2.2.1,0,()),x27.2.1,(x27.2.2.2.1.1++Eng.bytesV x27.1.2.2.2.2.1,x27.2.2.2.1.2),())
 else
 False)
 else
 False))
def Lq0y_2p:Lp:=⟨72502,[.trim 72502,.ren 2080 2912],upT155,upH156,0⟩
def Lq0y_1 (xq2a:Tq2a) (K:Bool→(List Eng.V)→Bool→Bool→Prop) (k12:uQ151→Prop):(uQ151→Prop)→uQ151→Prop:=fun k19 x20 =>
 (if decide (x20.1.2.2.2.2.2.2.2.2.1 < (↑(List.length x20.2.1.2.1):Int)) then
 (if 0≤x20.1.2.2.2.2.2.2.2.2.1∧x20.1.2.2.2.2.2.2.2.2.1 < (↑(List.length x20.2.1.2.1):Int) then
 (Eng.asInt IntKind.i64 (Eng.getC x20.2.1.2.1 (Int.toNat x20.1.2.2.2.2.2.2.2.2.1) (1:Nat)) False fun n21 =>
 xq2a x20.2.2.2.1.1 n21 1 (fun r22 r23 r24 r25 =>
 (if x20.1.2.2.2.2.2.2.2.1 then
 k19 ((x20.1.1,(),(),x20.1.2.2.2.1,x20.1.2.2.2.2.1,(),(),r22,w64 (x20.1.2.2.2.2.2.2.2.2.1+1),()),x20.2.1,x20.2.2.1,(r23,r24,r25),())
 else
 k19 ((x20.1.1,(),(),x20.1.2.2.2.1,x20.1.2.2.2.2.1,(),(),false,w64 (x20.1.2.2.2.2.2.2.2.2.1+1),()),x20.2.1,x20.2.2.1,(r23,r24,r25),()))))
 else
 False)
 else
 lp (Lq0y_2 xq2a K k12 k19) ((x20.1.1,(),(),x20.1.2.2.2.1,x20.1.2.2.2.2.1,(),(),x20.1.2.2.2.2.2.2.2.1,0,()),x20.2))
def Lq0y_1p:Lp:=⟨39734,[.trim 39734,.ren 1328 2912],upT157,upH156,0⟩
def Lq0y_0 (xq2a:Tq2a) (K:Bool→(List Eng.V)→Bool→Bool→Prop):(uQ151→Prop)→uQ151→Prop:=fun k12 x13 =>
 (if decide (x13.1.2.2.2.2.2.2.2.2.1 < (↑(List.length x13.2.1.2.1):Int)) then
 (if 0≤x13.1.2.2.2.2.2.2.2.2.1∧x13.1.2.2.2.2.2.2.2.2.1 < (↑(List.length x13.2.1.2.1):Int) then
 (Eng.asInt IntKind.i64 (Eng.getC x13.2.1.2.1 (Int.toNat x13.1.2.2.2.2.2.2.2.2.1) (0:Nat)) False fun n14 =>
 xq2a x13.2.2.2.1.1 n14 x13.1.1 (fun r15 r16 r17 r18 =>
 (if x13.1.2.2.2.2.2.2.2.1 then
 k12 ((x13.1.1,(),(),x13.1.2.2.2.1,x13.1.2.2.2.2.1,(),(),r15,w64 (x13.1.2.2.2.2.2.2.2.2.1+1),()),x13.2.1,x13.2.2.1,(r16,r17,r18),())
 else
 k12 ((x13.1.1,(),(),x13.1.2.2.2.1,x13.1.2.2.2.2.1,(),(),false,w64 (x13.1.2.2.2.2.2.2.2.2.1+1),()),x13.2.1,x13.2.2.1,(r16,r17,r18),()))))
 else
 False)
 else
 lp (Lq0y_1 xq2a K k12) ((x13.1.1,(),(),x13.1.2.2.2.1,x13.1.2.2.2.2.1,(),(),x13.1.2.2.2.2.2.2.2.1,0,()),x13.2))
def Lq0y_0p:Lp:=⟨23350,[.trim 23350,.fat 11 1 2912,.trim 23350,.ren 976 2912],upT158,upH156,0⟩
def Yq0y (xq1t:Tq1t) (xq1m:Tq1m) (xq26:Tq26) (xq2a:Tq2a) (a0:uQ58) (a1:Int) (K:Bool→(List Eng.V)→Bool→Bool→Prop):Prop :=
 xq1t a0 (fun r2 r3 =>
 (if (!r3) then
 K false [] true true
 else
 (if (a1 != 4) then
 (if (a1 != 8) then
 K false [] true true
 else
 xq1m a0 (fun r4 r5 r6 =>
 xq26 r4 (fun r7 r8 r9 r10 r11 =>
 lp (Lq0y_0 xq2a K) ((a1,(),(),false,r7,(),(),true,0,()),a0,(r9,r10,r11),([],true,false),()))))
 else
 xq1m a0 (fun r92 r93 r94 =>
 xq26 r92 (fun r95 r96 r97 r98 r99 =>
 lp (Lq0y_0 xq2a K) ((a1,(),(),false,r95,(),(),true,0,()),a0,(r97,r98,r99),([],true,false),()))))))
def Xq0y:Tq0y:=Yq0y Xq1t Xq1m Xq26 Xq2a
def Jq0y (X:Tq0y):Inst:=mkI 44 upL67 .nil upL51 upH5 X
def Iq0y:Inst:=Jq0y Xq0y
theorem Eq0y (xq1t:Tq1t) (xq1m:Tq1m) (xq26:Tq26) (xq2a:Tq2a):EqF Tryz.prog 178 gives Tryz.f44 [Jq1t xq1t,Jq1m xq1m,Jq26 xq26,Jq2a xq2a] [Lq0y_0p,Lq0y_1p,Lq0y_2p,Lq0y_3p] (Jq0y (Yq0y xq1t xq1m xq26 xq2a)):=fun x y K=>by kernel_rfl
theorem Iq0y_ok:InstOk Tryz.prog G.1 Iq0y:=iok (gives:=gives) [Lq0y_0p,Lq0y_1p,Lq0y_2p,Lq0y_3p] (okCons Iq1t_ok (okCons Iq1m_ok (okCons Iq26_ok (okCons Iq2a_ok okNil)))) 178 follows Tryz.func44 (by kernel_rfl) (fun x=>by kernel_rfl) (Eq0y Xq1t Xq1m Xq26 Xq2a)
abbrev Tq1u:Type:=(List Eng.V)→(Bool→(List Eng.V)→Bool→Bool→Prop)→Prop
def Yq1u (a0:(List Eng.V)) (K:Bool→(List Eng.V)→Bool→Bool→Prop):Prop :=
 (if Eng.roomOk ((0:Nat)+List.length a0) (1:Nat) then
 K false ([]++a0) true false
 else
 False)
def Xq1u:Tq1u:=Yq1u
def Jq1u (X:Tq1u):Inst:=mkI 168 upL3 .nil upL6 upH7 X
def Iq1u:Inst:=Jq1u Xq1u
theorem Eq1u:EqF Tryz.prog 8 gives Tryz.f168 [] [] (Jq1u (Yq1u)):=fun x y K=>by kernel_rfl
theorem Iq1u_ok:InstOk Tryz.prog G.1 Iq1u:=iok (gives:=gives) [] okNil 8 follows Tryz.func168 (by kernel_rfl) (fun x=>by kernel_rfl) (Eq1u)
abbrev Tq0e:Type:=Int→Bool→(List Eng.V)→Bool→Bool→(Bool→(List Eng.V)→Bool→Bool→(List Eng.V)→Bool→Bool→Prop)→Prop
def Yq0e (a0:Int) (a1:Bool) (a2:(List Eng.V)) (a3:Bool) (a4:Bool) (K:Bool→(List Eng.V)→Bool→Bool→(List Eng.V)→Bool→Bool→Prop):Prop :=
 (if a1 then
 K true [] true true [] true true
 else
 (if decide (a0 < 0) then
 K true [] true true [] true true
 else
 (if decide (a0 > (↑(List.length a2):Int)) then
 K true [] true true [] true true
 else
 (if 0≤a0∧a0≤(↑(List.length a2):Int) then
 (if (0 :Int)≤0∧0≤a0 then
 (if Eng.roomOk ((0:Nat)+List.length (Eng.cutL a2 (0:Nat) (Int.toNat a0 - (0:Nat)))) (1:Nat) then
 (if 0≤(↑(List.length a2):Int)∧(↑(List.length a2):Int)≤(↑(List.length a2):Int) then
 (if 0≤a0∧a0≤(↑(List.length a2):Int) then
 K a1 ([]++Eng.cutL a2 (0:Nat) (Int.toNat a0 - (0:Nat))) true false (Eng.cutL a2 (Int.toNat a0) (Int.toNat (↑(List.length a2):Int) - Int.toNat a0)) false true
 else
 False)
 else
 False)
 else
 False)
 else
 False)
 else
 False))))
def Xq0e:Tq0e:=Yq0e
def Jq0e (X:Tq0e):Inst:=mkI 170 upL10 upH7 upL11 upH12 X
def Iq0e:Inst:=Jq0e Xq0e
theorem Eq0e:EqF Tryz.prog 47 gives Tryz.f170 [] [] (Jq0e (Yq0e)):=fun x y K=>by kernel_rfl
theorem Iq0e_ok:InstOk Tryz.prog G.1 Iq0e:=iok (gives:=gives) [] okNil 47 follows Tryz.func170 (by kernel_rfl) (fun x=>by kernel_rfl) (Eq0e)
abbrev Tq0f:Type:=Int→Bool→(List Eng.V)→Bool→Bool→(Int→Bool→(List Eng.V)→Bool→Bool→Prop)→Prop
def Lq0f_0 (K:Int→Bool→(List Eng.V)→Bool→Bool→Prop) (a1:Bool) (a2:(List Eng.V)) (a3:Bool) (a4:Bool):(uQ13→Prop)→uQ13→Prop:=fun k12 x13 =>
 (if decide (x13.1.2.2.2.2.1 < (↑(List.length x13.2.2.2.1.1):Int)) then
 (if 0≤x13.1.2.2.2.2.1∧x13.1.2.2.2.2.1 < (↑(List.length x13.2.2.2.1.1):Int) then
 (Eng.asInt IntKind.u8 (Eng.getC x13.2.2.2.1.1 (Int.toNat x13.1.2.2.2.2.1) (0:Nat)) False fun n14 =>
 (lt (wu64 (↑(BitVec.toNat (BitVec.ofInt (64:Nat) (wu64 (x13.1.2.2.2.1 * 256)) ||| BitVec.ofInt (64:Nat) (wu64 n14))):Int)) fun v15 =>
 k12 ((x13.1.1,x13.1.2.1,(),v15,w64 (x13.1.2.2.2.2.1+1),()),((),x13.2.1.2),x13.2.2)))
 else
 False)
 else
 (if (x13.1.1 == 4) then
 K (w64 (wi32 (wu32 x13.1.2.2.2.1))) x13.2.1.2.1 x13.2.2.1.1 x13.2.2.1.2.1 x13.2.2.1.2.2
 else
 K (w64 x13.1.2.2.2.1) x13.2.1.2.1 x13.2.2.1.1 x13.2.2.1.2.1 x13.2.2.1.2.2))
def Lq0f_0p:Lp:=⟨242,[.trim 242],upT159,upH160,0⟩
def Yq0f (xq0e:Tq0e) (a0:Int) (a1:Bool) (a2:(List Eng.V)) (a3:Bool) (a4:Bool) (K:Int→Bool→(List Eng.V)→Bool→Bool→Prop):Prop :=
 (if (a0 != 1) then
 (if (a0 != 4) then
 (if (a0 != 8) then
 xq0e (-1) a1 a2 a3 a4 (fun r5 r6 r7 r8 r9 r10 r11 =>
 lp (Lq0f_0 K a1 a2 a3 a4) (((-1),0,(),0,0,()),((),r5,()),(r9,r10,r11),(r6,r7,r8),()))
 else
 xq0e a0 a1 a2 a3 a4 (fun r16 r17 r18 r19 r20 r21 r22 =>
 lp (Lq0f_0 K a1 a2 a3 a4) ((a0,0,(),0,0,()),((),r16,()),(r20,r21,r22),(r17,r18,r19),())))
 else
 xq0e a0 a1 a2 a3 a4 (fun r27 r28 r29 r30 r31 r32 r33 =>
 lp (Lq0f_0 K a1 a2 a3 a4) ((a0,0,(),0,0,()),((),r27,()),(r31,r32,r33),(r28,r29,r30),())))
 else
 xq0e a0 a1 a2 a3 a4 (fun r38 r39 r40 r41 r42 r43 r44 =>
 lp (Lq0f_0 K a1 a2 a3 a4) ((a0,0,(),0,0,()),((),r38,()),(r42,r43,r44),(r39,r40,r41),())))
def Xq0f:Tq0f:=Yq0f Xq0e
def Jq0f (X:Tq0f):Inst:=mkI 169 upL10 upH7 upL2 upH7 X
def Iq0f:Inst:=Jq0f Xq0f
theorem Eq0f (xq0e:Tq0e):EqF Tryz.prog 43 gives Tryz.f169 [Jq0e xq0e] [Lq0f_0p] (Jq0f (Yq0f xq0e)):=fun x y K=>by kernel_rfl
theorem Iq0f_ok:InstOk Tryz.prog G.1 Iq0f:=iok (gives:=gives) [Lq0f_0p] (okCons Iq0e_ok okNil) 43 follows Tryz.func169 (by kernel_rfl) (fun x=>by kernel_rfl) (Eq0f Xq0e)
abbrev Tq0z:Type:=(List Eng.V)→(uQ0→Bool→Prop)→Prop
def Yq0z (xq1u:Tq1u) (xq0f:Tq0f) (xq10:Tq10) (a0:(List Eng.V)) (K:uQ0→Bool→Prop):Prop :=
 (if decide ((↑(List.length a0):Int) < 44) then
 K (0,0,0,0,0,0,0,()) false
 else
 (if (0 :Int)≤44∧44≤(↑(List.length a0):Int) then
 xq1u (Eng.cutL a0 (20:Nat) (24:Nat)) (fun r1 r2 r3 r4 =>
 xq0f 4 r1 r2 r3 r4 (fun r5 r6 r7 r8 r9 =>
 xq0f 4 r6 r7 r8 r9 (fun r10 r11 r12 r13 r14 =>
 xq0f 4 r11 r12 r13 r14 (fun r15 r16 r17 r18 r19 =>
 xq0f 4 r16 r17 r18 r19 (fun r20 r21 r22 r23 r24 =>
 xq0f 4 r21 r22 r23 r24 (fun r25 r26 r27 r28 r29 =>
 xq0f 4 r26 r27 r28 r29 (fun r30 r31 r32 r33 r34 =>
 (if (0 :Int)≤4∧4 < (↑(List.length a0):Int) then
 (Eng.asInt IntKind.u8 (Eng.getC a0 (4:Nat) (0:Nat)) False fun n35 =>
 (if decide (n35 > 48) then
 (if (0 :Int)≤4∧4 < (↑(List.length a0):Int) then
 (Eng.asInt IntKind.u8 (Eng.getC a0 (4:Nat) (0:Nat)) False fun n36 =>
 xq10 (w64 (wu8 (n36 - 48)),r5,r10,r15,r20,r25,r30,()) (fun r37 r38 r39 r40 =>
 (if (!r37) then
 (dup (
 K (0,0,0,0,0,0,0,()) false))
 else
 (if (0 :Int)≤44∧44≤(↑(List.length a0):Int) then
 (
 (if Eng.allU8 r38 then
 (if Eng.allU8 (Eng.cutL a0 (0:Nat) (44:Nat)) then
 (if (!ByteArray.toList (Eng.packB r38) == ByteArray.toList (Eng.packB (Eng.cutL a0 (0:Nat) (44:Nat)))) then
 K (0,0,0,0,0,0,0,()) false
 else
 K (w64 (wu8 (n36 - 48)),r5,r10,r15,r20,r25,r30,()) true)
 else
 False)
 else
 False)
 ∧
 (if Eng.allU8 (Eng.cutL a0 (0:Nat) (44:Nat)) then
 (if Eng.allU8 r38 then
 (if (!ByteArray.toList (Eng.packB r38) == ByteArray.toList (Eng.packB (Eng.cutL a0 (0:Nat) (44:Nat)))) then
 K (0,0,0,0,0,0,0,()) false
 else
 K (w64 (wu8 (n36 - 48)),r5,r10,r15,r20,r25,r30,()) true)
 else
 False)
 else
 False))
 else
 False))))
 else
 False)
 else
 xq10 (1,r5,r10,r15,r20,r25,r30,()) (fun r41 r42 r43 r44 =>
 (if (!r41) then
 (dup (
 K (0,0,0,0,0,0,0,()) false))
 else
 (if (0 :Int)≤44∧44≤(↑(List.length a0):Int) then
 (
 (if Eng.allU8 r42 then
 (if Eng.allU8 (Eng.cutL a0 (0:Nat) (44:Nat)) then
 (if (!ByteArray.toList (Eng.packB r42) == ByteArray.toList (Eng.packB (Eng.cutL a0 (0:Nat) (44:Nat)))) then
 K (0,0,0,0,0,0,0,()) false
 else
 K (1,r5,r10,r15,r20,r25,r30,()) true)
 else
 False)
 else
 False)
 ∧
 (if Eng.allU8 (Eng.cutL a0 (0:Nat) (44:Nat)) then
 (if Eng.allU8 r42 then
 (if (!ByteArray.toList (Eng.packB r42) == ByteArray.toList (Eng.packB (Eng.cutL a0 (0:Nat) (44:Nat)))) then
 K (0,0,0,0,0,0,0,()) false
 else
 K (1,r5,r10,r15,r20,r25,r30,()) true)
 else
 False)
 else
 False))
 else
 False)))))
 else
 False))))))))
 else
 False))
def Xq0z:Tq0z:=Yq0z Xq1u Xq0f Xq10
def Jq0z (X:Tq0z):Inst:=mkI 109 upL3 .nil upL77 .nil X
def Iq0z:Inst:=Jq0z Xq0z
theorem Eq0z (xq1u:Tq1u) (xq0f:Tq0f) (xq10:Tq10):EqF Tryz.prog 55 gives Tryz.f109 [Jq1u xq1u,Jq0f xq0f,Jq10 xq10] [] (Jq0z (Yq0z xq1u xq0f xq10)):=fun x y K=>by kernel_rfl
theorem Iq0z_ok:InstOk Tryz.prog G.1 Iq0z:=iok (gives:=gives) [] (okCons Iq1u_ok (okCons Iq0f_ok (okCons Iq10_ok okNil))) 55 follows Tryz.func109 (by kernel_rfl) (fun x=>by kernel_rfl) (Eq0z Xq1u Xq0f Xq10)
abbrev Tq23:Type:=uQ0→Int→(Int→Prop)→Prop
def Yq23 (xq1r:Tq1r) (a0:uQ0) (a1:Int) (K:Int→Prop):Prop :=
 xq1r a0 (fun r2 =>
 (if (!r2) then
 K 0
 else
 (if (a1 != 4) then
 (if (a1 != 8) then
 K 0
 else
 (lt (w64 (w64 (a1+1) * a0.2.2.2.2.1)) fun v3 =>
 (lt (w64 (v3+w64 (6 * a0.2.2.2.2.2.1))) fun v4 =>
 (lt (w64 (w64 (a1+4) * a0.2.2.2.1)) fun v5 =>
 (lt (w64 (w64 (v4+a0.2.2.2.2.2.2.1)+v5)) fun v6 =>
 (lt (w64 (w64 (v6+a0.2.2.1)+a0.2.1)) fun v7 =>
 K v7))))))
 else
 (lt (w64 (w64 (a1+1) * a0.2.2.2.2.1)) fun v8 =>
 (lt (w64 (v8+w64 (6 * a0.2.2.2.2.2.1))) fun v9 =>
 (lt (w64 (w64 (a1+4) * a0.2.2.2.1)) fun v10 =>
 (lt (w64 (w64 (v9+a0.2.2.2.2.2.2.1)+v10)) fun v11 =>
 (lt (w64 (w64 (v11+a0.2.2.1)+a0.2.1)) fun v12 =>
 K v12))))))))
def Xq23:Tq23:=Yq23 Xq1r
def Jq23 (X:Tq23):Inst:=mkI 111 upL1 .nil upL2 .nil X
def Iq23:Inst:=Jq23 Xq23
theorem Eq23 (xq1r:Tq1r):EqF Tryz.prog 40 gives Tryz.f111 [Jq1r xq1r] [] (Jq23 (Yq23 xq1r)):=fun x y K=>by kernel_rfl
theorem Iq23_ok:InstOk Tryz.prog G.1 Iq23:=iok (gives:=gives) [] (okCons Iq1r_ok okNil) 40 follows Tryz.func111 (by kernel_rfl) (fun x=>by kernel_rfl) (Eq23 Xq1r)
abbrev Tq1e:Type:=(List Eng.V)→(Bool→Prop)→Prop
def Lq1e_0 (K:Bool→Prop):(uQ161→Prop)→uQ161→Prop:=fun k1 x2 =>
 (if decide (x2.1.2.2.1 < (↑(List.length x2.1.1):Int)) then
 (if 0≤x2.1.2.2.1∧x2.1.2.2.1 < (↑(List.length x2.1.1):Int) then
 (Eng.asInt IntKind.u8 (Eng.getC x2.1.1 (Int.toNat x2.1.2.2.1) (0:Nat)) False fun n3 =>
 (if decide (n3 > 1) then
 K false
 else
 k1 ((x2.1.1,x2.1.2.1,w64 (x2.1.2.2.1+1),()),())))
 else
 False)
 else
 K true)
def Lq1e_0p:Lp:=⟨13,[.trim 13],upT162,.nil,0⟩
def Yq1e (a0:(List Eng.V)) (K:Bool→Prop):Prop :=
 lp (Lq1e_0 K) ((a0,false,0,()),())
def Xq1e:Tq1e:=Yq1e
def Jq1e (X:Tq1e):Inst:=mkI 172 upL3 .nil upL9 .nil X
def Iq1e:Inst:=Jq1e Xq1e
theorem Eq1e:EqF Tryz.prog 15 gives Tryz.f172 [] [Lq1e_0p] (Jq1e (Yq1e)):=fun x y K=>by kernel_rfl
theorem Iq1e_ok:InstOk Tryz.prog G.1 Iq1e:=iok (gives:=gives) [Lq1e_0p] okNil 15 follows Tryz.func172 (by kernel_rfl) (fun x=>by kernel_rfl) (Eq1e)
abbrev Tq1w:Type:=(List Eng.V)→(ByteArray→Bool→Prop)→Prop
def Lq1w_0 (K:ByteArray→Bool→Prop):(uQ163→Prop)→uQ163→Prop:=fun k3 x4 =>
 (if decide (x4.1.2.2.2.1 < w64 ((↑(List.length x4.1.1):Int) - 1)) then
 (if 0≤x4.1.2.2.2.1∧x4.1.2.2.2.1 < (↑(List.length x4.1.1):Int) then
 (Eng.asInt IntKind.u8 (Eng.getC x4.1.1 (Int.toNat x4.1.2.2.2.1) (0:Nat)) False fun n5 =>
 (if (n5 == 10) then
 K (ByteArray.mk #[]) false
 else
 k3 ((x4.1.1,x4.1.2.1,x4.1.2.2.1,w64 (x4.1.2.2.2.1+1),()),())))
 else
 False)
 else
 (if 0≤w64 ((↑(List.length x4.1.1):Int) - 1)∧w64 ((↑(List.length x4.1.1):Int) - 1)≤(↑(List.length x4.1.1):Int) then
 (if (0 :Int)≤1∧1≤w64 ((↑(List.length x4.1.1):Int) - 1) then
 (if Eng.allU8 (Eng.cutL x4.1.1 (1:Nat) (Int.toNat (w64 ((↑(List.length x4.1.1):Int) - 1)) - (1:Nat))) then
 (lt (Eng.packB (Eng.cutL x4.1.1 (1:Nat) (Int.toNat (w64 ((↑(List.length x4.1.1):Int) - 1)) - (1:Nat)))) fun v6 =>
 K v6 true)
 else
 False)
 else
 False)
 else
 False))
def Lq1w_0p:Lp:=⟨29,[.trim 29],upT164,.nil,0⟩
def Yq1w (a0:(List Eng.V)) (K:ByteArray→Bool→Prop):Prop :=
 (if decide ((↑(List.length a0):Int) < 2) then
 K (ByteArray.mk #[]) false
 else
 (if (0 :Int)≤0∧0 < (↑(List.length a0):Int) then
 (Eng.asInt IntKind.u8 (Eng.getC a0 (0:Nat) (0:Nat)) False fun n1 =>
 (if (n1 != 10) then
 K (ByteArray.mk #[]) false
 else
 (if 0≤w64 ((↑(List.length a0):Int) - 1)∧w64 ((↑(List.length a0):Int) - 1) < (↑(List.length a0):Int) then
 (Eng.asInt IntKind.u8 (Eng.getC a0 (Int.toNat (w64 ((↑(List.length a0):Int) - 1))) (0:Nat)) False fun n2 =>
 (if (n2 != 10) then
 K (ByteArray.mk #[]) false
 else
 lp (Lq1w_0 K) ((a0,ByteArray.mk #[],false,1,()),())))
 else
 False)))
 else
 False))
def Xq1w:Tq1w:=Yq1w
def Jq1w (X:Tq1w):Inst:=mkI 112 upL3 .nil upL23 .nil X
def Iq1w:Inst:=Jq1w Xq1w
theorem Eq1w:EqF Tryz.prog 41 gives Tryz.f112 [] [Lq1w_0p] (Jq1w (Yq1w)):=fun x y K=>by kernel_rfl
theorem Iq1w_ok:InstOk Tryz.prog G.1 Iq1w:=iok (gives:=gives) [Lq1w_0p] okNil 41 follows Tryz.func112 (by kernel_rfl) (fun x=>by kernel_rfl) (Eq1w)
end Go.Proofs.YtbnpclndiichcaaGreatDoor
end
section
set_option linter.unusedVariables false
set_option linter.unusedSimpArgs false
namespace Go.Proofs.YtbnpclndiichcaaGreatDoor
open Go Go.Proofs.YtbnpclndiichcaaGreatDoor.Eng
set_option maxRecDepth 100000
set_option maxHeartbeats 4000000
variable {G:Gs}
abbrev oQ0:Type:=(ByteArray×Int×ByteArray×Bool×Int×Unit)×Unit
abbrev opT1:PT:=(.cons 0 .str (.cons 1 (.int .i64) (.cons 4 .str (.cons 5 .bool (.cons 6 (.int .i64) .nil)))))
abbrev opL2:PL:=(.cons .str (.cons (.int .i64) .nil))
abbrev opL3:PL:=(.cons .str (.cons .bool .nil))
abbrev oQ4:Type:=Int×Int×Int×Int×Int×Int×Int×Unit
abbrev oQ5:Type:=Unit×Unit×Unit×ByteArray×Int×Unit
abbrev oQ6:Type:=(Int×Unit×Unit×Bool×Unit×Unit×Int×Unit)×(Int×Int×Int×Int×Int×Int×Int×Unit)×(Unit×Unit×Unit×ByteArray×Int×Unit)×(Unit×Unit×Unit×ByteArray×Int×Unit)×(Unit×Bool×Unit)×(List Eng.V×Bool×Bool)×List Eng.V×Unit
abbrev oQ7:Type:=(Int×Unit×Unit×Bool×Unit×Unit×Unit×Bool×Int×Unit)×(Int×Int×Int×Int×Int×Int×Int×Unit)×(Unit×Unit×Unit×ByteArray×Int×Unit)×(Unit×Unit×Unit×ByteArray×Int×Unit)×(Unit×Bool×Unit)×(List Eng.V×Bool×Bool)×List Eng.V×List Eng.V×List Eng.V×Unit
abbrev oQ8:Type:=(Int×Unit×Unit×Bool×Unit×Unit×Unit×Bool×ByteArray×Int×Unit)×(Int×Int×Int×Int×Int×Int×Int×Unit)×(Unit×Unit×Unit×ByteArray×Int×Unit)×(Unit×Unit×Unit×ByteArray×Int×Unit)×(Unit×Bool×Unit)×(List Eng.V×Bool×Bool)×List Eng.V×List Eng.V×List Eng.V×Unit
abbrev oQ9:Type:=(Int×Unit×Unit×Bool×Unit×Unit×Bool×Int×Unit)×(Int×Int×Int×Int×Int×Int×Int×Unit)×(Unit×Unit×Unit×ByteArray×Int×Unit)×(Unit×Unit×Unit×ByteArray×Int×Unit)×(Unit×Bool×Unit)×(List Eng.V×Bool×Bool)×List Eng.V×List Eng.V×List Eng.V×Unit
abbrev oQ10:Type:=(Unit×Bool×Unit×Bool×Unit×Unit×Bool×Bool×Int×Unit)×(Unit×Unit×Unit×ByteArray×Int×Unit)×(Unit×Unit×Unit×ByteArray×Int×Unit)×(List Eng.V×Bool×Bool)×(List Eng.V×Bool×Bool)×List Eng.V×List Eng.V×List Eng.V×Unit
abbrev opT11:PT:=(.cons 6 (.ptr 160 0) (.cons 7 .bool (.cons 9 (.ptr 208 0) (.cons 13 .bool (.cons 23 (.sla 2641) (.cons 24 (.sla 2705) (.cons 25 .bool (.cons 26 .bool (.cons 27 (.int .i64) .nil)))))))))
abbrev opH12:PH:=(.cons 160 (.cells [.sl 3,.sl 2,.sl 2,.str,.int .i64] (.cons (.nl 3) (.cons (.nl 2) (.cons (.nl 2) (.cons .str (.cons (.int .i64) .nil)))))) (.cons 208 (.cells [.sl 3,.sl 2,.sl 2,.str,.int .i64] (.cons (.sla 3696) (.cons (.sla 3680) (.cons (.sla 3712) (.cons .str (.cons (.int .i64) .nil)))))) (.cons 2641 (.arrB 1) (.cons 2705 (.arrB 1) (.cons 3680 (.arr 2 true false) (.cons 3696 (.arr 3 true false) (.cons 3712 (.arr 2 true false) .nil)))))))
abbrev opT13:PT:=(.cons 2 (.int .i64) (.cons 3 (.ptr 112 0) (.cons 6 (.ptr 160 0) (.cons 7 .bool (.cons 8 (.ptr 848 0) (.cons 9 (.ptr 208 0) (.cons 13 .bool (.cons 21 (.int .i64) .nil))))))))
abbrev opH14:PH:=(.cons 112 (.cells [.int .i64,.int .i64,.int .i64,.int .i64,.int .i64,.int .i64,.int .i64] (.cons (.int .i64) (.cons (.int .i64) (.cons (.int .i64) (.cons (.int .i64) (.cons (.int .i64) (.cons (.int .i64) (.cons (.int .i64) .nil)))))))) (.cons 160 (.cells [.sl 3,.sl 2,.sl 2,.str,.int .i64] (.cons (.nl 3) (.cons (.nl 2) (.cons (.nl 2) (.cons .str (.cons (.int .i64) .nil)))))) (.cons 208 (.cells [.sl 3,.sl 2,.sl 2,.str,.int .i64] (.cons (.sla 3696) (.cons (.sla 3680) (.cons (.sla 3712) (.cons .str (.cons (.int .i64) .nil)))))) (.cons 848 (.cells [.sl 1,.bool] (.cons (.sla 1872) (.cons .bool .nil))) (.cons 1872 (.arrB 1) (.cons 3680 (.arr 2 true false) (.cons 3696 (.arr 3 true false) (.cons 3712 (.arr 2 true false) .nil))))))))
abbrev opT15:PT:=(.cons 2 (.int .i64) (.cons 3 (.ptr 112 0) (.cons 6 (.ptr 160 0) (.cons 7 .bool (.cons 8 (.ptr 848 0) (.cons 9 (.ptr 208 0) (.cons 12 (.sla 3360) (.cons 13 .bool (.cons 17 .str (.cons 18 (.int .i64) .nil))))))))))
abbrev opH16:PH:=(.cons 112 (.cells [.int .i64,.int .i64,.int .i64,.int .i64,.int .i64,.int .i64,.int .i64] (.cons (.int .i64) (.cons (.int .i64) (.cons (.int .i64) (.cons (.int .i64) (.cons (.int .i64) (.cons (.int .i64) (.cons (.int .i64) .nil)))))))) (.cons 160 (.cells [.sl 3,.sl 2,.sl 2,.str,.int .i64] (.cons (.nl 3) (.cons (.nl 2) (.cons (.nl 2) (.cons .str (.cons (.int .i64) .nil)))))) (.cons 208 (.cells [.sl 3,.sl 2,.sl 2,.str,.int .i64] (.cons (.sla 3696) (.cons (.sla 3680) (.cons (.nl 2) (.cons .str (.cons (.int .i64) .nil)))))) (.cons 848 (.cells [.sl 1,.bool] (.cons (.sla 1872) (.cons .bool .nil))) (.cons 1872 (.arrB 1) (.cons 3360 (.arr 1 true false) (.cons 3680 (.arr 2 true false) (.cons 3696 (.arr 3 true false) .nil))))))))
abbrev opT17:PT:=(.cons 2 (.int .i64) (.cons 3 (.ptr 112 0) (.cons 6 (.ptr 160 0) (.cons 7 .bool (.cons 8 (.ptr 848 0) (.cons 9 (.ptr 208 0) (.cons 12 (.sla 3360) (.cons 13 .bool (.cons 14 (.int .i64) .nil)))))))))
abbrev opH18:PH:=(.cons 112 (.cells [.int .i64,.int .i64,.int .i64,.int .i64,.int .i64,.int .i64,.int .i64] (.cons (.int .i64) (.cons (.int .i64) (.cons (.int .i64) (.cons (.int .i64) (.cons (.int .i64) (.cons (.int .i64) (.cons (.int .i64) .nil)))))))) (.cons 160 (.cells [.sl 3,.sl 2,.sl 2,.str,.int .i64] (.cons (.nl 3) (.cons (.nl 2) (.cons (.nl 2) (.cons .str (.cons (.int .i64) .nil)))))) (.cons 208 (.cells [.sl 3,.sl 2,.sl 2,.str,.int .i64] (.cons (.sla 3696) (.cons (.sla 3680) (.cons (.nl 2) (.cons .str (.cons (.int .i64) .nil)))))) (.cons 848 (.cells [.sl 1,.bool] (.cons (.sla 849) (.cons .bool .nil))) (.cons 849 (.arrB 1) (.cons 3360 (.arr 1 true false) (.cons 3680 (.arr 2 true false) (.cons 3696 (.arr 3 true false) .nil))))))))
abbrev opT19:PT:=(.cons 2 (.int .i64) (.cons 3 (.ptr 112 0) (.cons 6 (.ptr 160 0) (.cons 7 .bool (.cons 8 (.ptr 848 0) (.cons 9 (.ptr 208 0) (.cons 11 (.int .i64) .nil)))))))
abbrev opH20:PH:=(.cons 112 (.cells [.int .i64,.int .i64,.int .i64,.int .i64,.int .i64,.int .i64,.int .i64] (.cons (.int .i64) (.cons (.int .i64) (.cons (.int .i64) (.cons (.int .i64) (.cons (.int .i64) (.cons (.int .i64) (.cons (.int .i64) .nil)))))))) (.cons 160 (.cells [.sl 3,.sl 2,.sl 2,.str,.int .i64] (.cons (.nl 3) (.cons (.nl 2) (.cons (.nl 2) (.cons .str (.cons (.int .i64) .nil)))))) (.cons 208 (.cells [.sl 3,.sl 2,.sl 2,.str,.int .i64] (.cons (.nl 3) (.cons (.sla 3680) (.cons (.nl 2) (.cons .str (.cons (.int .i64) .nil)))))) (.cons 848 (.cells [.sl 1,.bool] (.cons (.sla 849) (.cons .bool .nil))) (.cons 849 (.arrB 1) (.cons 3680 (.arr 2 true false) .nil))))))
abbrev opT21:PT:=(.cons 2 (.int .i64) (.cons 3 (.ptr 112 0) (.cons 6 (.ptr 160 0) (.cons 7 .bool (.cons 8 (.ptr 848 0) (.cons 9 (.ptr 208 0) (.cons 10 (.int .i64) .nil)))))))
abbrev opL22:PL:=(.cons (.agg (.cons (.int .i64) (.cons (.int .i64) (.cons (.int .i64) (.cons (.int .i64) (.cons (.int .i64) (.cons (.int .i64) (.cons (.int .i64) .nil)))))))) (.cons (.slN 1) (.cons (.int .i64) .nil)))
abbrev opL23:PL:=(.cons (.agg (.cons (.sla 0) (.cons (.sla 1) (.cons (.sla 2) (.cons .str (.cons (.int .i64) .nil)))))) (.cons .bool .nil))
abbrev opH24:PH:=(.cons 0 (.arrB 3) (.cons 1 (.arrB 2) (.cons 2 (.arrB 2) .nil)))
abbrev oQ25:Type:=List Eng.V×List Eng.V×List Eng.V×ByteArray×Int×Unit
abbrev opL26:PL:=(.cons (.agg (.cons (.slN 3) (.cons (.slN 2) (.cons (.slN 2) (.cons .str (.cons (.int .i64) .nil)))))) .nil)
abbrev opL27:PL:=(.cons (.sla 0) (.cons .bool .nil))
abbrev opH28:PH:=(.cons 0 (.arrB 1) .nil)
abbrev opL29:PL:=(.cons (.slN 1) .nil)
abbrev opL30:PL:=(.cons (.agg (.cons (.sla 0) (.cons (.sla 1) (.cons (.sla 2) (.cons .str (.cons (.int .i64) .nil)))))) (.cons (.int .i64) .nil))
abbrev opL31:PL:=(.cons .bool .nil)
abbrev oQ32:Type:=(List Eng.V×Bool×Bool×Unit×Bool×Unit×Bool×Unit×Unit×Int×Int×Unit)×(Unit×Unit×Unit×ByteArray×Int×Unit)×(List Eng.V×Bool×Bool)×(List Eng.V×Bool×Bool)×List Eng.V×(List Eng.V×Bool×Bool)×(List Eng.V×Bool×Bool)×(List Eng.V×Bool×Bool)×Unit
abbrev opT33:PT:=(.cons 1 (.slN 1) (.cons 4 .bool (.cons 5 .bool (.cons 7 (.sla 544) (.cons 8 .bool (.cons 9 (.sla 624) (.cons 10 .bool (.cons 11 (.sla 672) (.cons 12 (.ptr 256 0) (.cons 13 (.int .i64) (.cons 14 (.int .i64) .nil)))))))))))
abbrev opH34:PH:=(.cons 256 (.cells [.sl 3,.sl 2,.sl 2,.str,.int .i64] (.cons (.sla 752) (.cons (.sla 753) (.cons (.sla 754) (.cons .str (.cons (.int .i64) .nil)))))) (.cons 544 (.arrB 1) (.cons 624 (.arrB 1) (.cons 672 (.arr 1 true false) (.cons 752 (.arrB 3) (.cons 753 (.arrB 2) (.cons 754 (.arrB 2) .nil)))))))
abbrev opL35:PL:=(.cons (.agg (.cons (.slN 3) (.cons (.slN 2) (.cons (.slN 2) (.cons .str (.cons (.int .i64) .nil)))))) (.cons (.slN 1) .nil))
abbrev Tq2h:Type:=ByteArray→Int→(ByteArray→Bool→Prop)→Prop
def Lq2h_0 (xq1s:Tq1s) (K:ByteArray→Bool→Prop):(oQ0→Prop)→oQ0→Prop:=fun k2 x3 =>
 (if decide (x3.1.2.2.2.2.1 < (↑(ByteArray.size x3.1.1):Int)) then
 (if 0≤x3.1.2.2.2.2.1∧x3.1.2.2.2.2.1 < (↑(ByteArray.size x3.1.1):Int) then
 (if (Eng.bAt x3.1.1 (Int.toNat x3.1.2.2.2.2.1) == 0) then
 (if 0≤x3.1.2.2.2.2.1∧x3.1.2.2.2.2.1≤(↑(ByteArray.size x3.1.1):Int) then
 (if 0≤x3.1.2.1∧x3.1.2.1≤x3.1.2.2.2.2.1 then
 xq1s (ByteArray.extract x3.1.1 (Int.toNat x3.1.2.1) (Int.toNat x3.1.2.2.2.2.1)) (fun r4 =>
 (if (!r4) then
 K (ByteArray.mk #[]) false
 else
 K (ByteArray.extract x3.1.1 (Int.toNat x3.1.2.1) (Int.toNat x3.1.2.2.2.2.1)) true))
 else
 False)
 else
 False)
 else
 k2 ((x3.1.1,x3.1.2.1,x3.1.2.2.1,x3.1.2.2.2.1,w64 (x3.1.2.2.2.2.1+1),()),()))
 else
 False)
 else
 K (ByteArray.mk #[]) false)
def Lq2h_0p:Lp:=⟨115,[.trim 115],opT1,.nil,0⟩
def Yq2h (xq1s:Tq1s) (a0:ByteArray) (a1:Int) (K:ByteArray→Bool→Prop):Prop :=
 (if decide (a1 < 0) then
 K (ByteArray.mk #[]) false
 else
 (if decide (a1≥(↑(ByteArray.size a0):Int)) then
 K (ByteArray.mk #[]) false
 else
 lp (Lq2h_0 xq1s K) ((a0,a1,ByteArray.mk #[],false,a1,()),())))
def Xq2h:Tq2h:=Yq2h Xq1s
def Jq2h (X:Tq2h):Inst:=mkI 171 opL2 .nil opL3 .nil X
def Iq2h:Inst:=Jq2h Xq2h
theorem Eq2h (xq1s:Tq1s):EqF Tryz.prog 35 gives Tryz.f171 [Jq1s xq1s] [Lq2h_0p] (Jq2h (Yq2h xq1s)):=fun x y K=>by kernel_rfl
theorem Iq2h_ok:InstOk Tryz.prog G.1 Iq2h:=iok (gives:=gives) [Lq2h_0p] (okCons Iq1s_ok okNil) 35 follows Tryz.func171 (by kernel_rfl) (fun x=>by kernel_rfl) (Eq2h Xq1s)
abbrev Tq0w:Type:=oQ4→(List Eng.V)→Int→(oQ5→Bool→(List Eng.V)→Bool→Bool→(List Eng.V)→Bool→Bool→(List Eng.V)→Bool→Bool→Prop)→Prop
def Lq0w_11 (K:oQ5→Bool→(List Eng.V)→Bool→Bool→(List Eng.V)→Bool→Bool→(List Eng.V)→Bool→Bool→Prop) (k90:oQ6→Prop) (k97:oQ6→Prop) (k104:oQ7→Prop) (k129:oQ8→Prop) (k134:oQ9→Prop):(oQ10→Prop)→oQ10→Prop:=fun k162 x163 =>
 (if decide (x163.1.2.2.2.2.2.2.2.2.1 < (↑(List.length x163.2.2.2.2.1.1):Int)) then
 (if 0≤x163.1.2.2.2.2.2.2.2.2.1∧x163.1.2.2.2.2.2.2.2.2.1 < (↑(List.length x163.2.2.2.2.1.1):Int) then
 (Eng.asInt IntKind.u8 (Eng.getC x163.2.2.2.2.1.1 (Int.toNat x163.1.2.2.2.2.2.2.2.2.1) (0:Nat)) False fun n164 =>
 (if (n164 == 1) then
 (if decide (x163.1.2.2.2.2.2.2.2.2.1≥(↑(List.length x163.2.2.2.1.1):Int)) then
 k162 (((),x163.1.2.1,(),false,(),(),x163.1.2.2.2.2.2.2.1,x163.1.2.2.2.2.2.2.2.1,w64 (x163.1.2.2.2.2.2.2.2.2.1+1),()),((),(),(),x163.2.1.2.2.2),((),(),(),x163.2.2.1.2.2.2),x163.2.2.2)
 else
 (if 0≤x163.1.2.2.2.2.2.2.2.2.1∧x163.1.2.2.2.2.2.2.2.2.1 < (↑(List.length x163.2.2.2.1.1):Int) then
 (Eng.asInt IntKind.u8 (Eng.getC x163.2.2.2.1.1 (Int.toNat x163.1.2.2.2.2.2.2.2.2.1) (0:Nat)) False fun n165 =>
 (if (n165 == 0) then
 k162 (((),x163.1.2.1,(),false,(),(),x163.1.2.2.2.2.2.2.1,x163.1.2.2.2.2.2.2.2.1,w64 (x163.1.2.2.2.2.2.2.2.2.1+1),()),((),(),(),x163.2.1.2.2.2),((),(),(),x163.2.2.1.2.2.2),x163.2.2.2)
 else
 k162 (((),x163.1.2.1,(),x163.1.2.2.2.1,(),(),x163.1.2.2.2.2.2.2.1,x163.1.2.2.2.2.2.2.2.1,w64 (x163.1.2.2.2.2.2.2.2.2.1+1),()),((),(),(),x163.2.1.2.2.2),((),(),(),x163.2.2.1.2.2.2),x163.2.2.2)))
 else
 False))
 else
 k162 (((),x163.1.2.1,(),x163.1.2.2.2.1,(),(),x163.1.2.2.2.2.2.2.1,x163.1.2.2.2.2.2.2.2.1,w64 (x163.1.2.2.2.2.2.2.2.2.1+1),()),((),(),(),x163.2.1.2.2.2),((),(),(),x163.2.2.1.2.2.2),x163.2.2.2)))
 else
 False)
 else
 (if (!x163.1.2.2.2.1) then
 K ((),(),(),ByteArray.mk #[],0,()) false [] true true [] true true [] true true
 else
 (if (!x163.1.2.2.2.2.2.2.1) then
 K ((),(),(),ByteArray.mk #[],0,()) false [] true true [] true true [] true true
 else
 (if (!x163.1.2.2.2.2.2.2.2.1) then
 K ((),(),(),ByteArray.mk #[],0,()) false [] true true [] true true [] true true
 else
 K ((),(),(),x163.2.2.1.2.2.2) true x163.2.2.2.2.2.2.1 true false x163.2.2.2.2.2.1 true false x163.2.2.2.2.2.2.2.1 true false))))
def Lq0w_11p:Lp:=⟨260055744,[.trim 260055744],opT11,opH12,0⟩
def Lq0w_10 (xq0f:Tq0f) (xq0e:Tq0e) (xq1e:Tq1e) (K:oQ5→Bool→(List Eng.V)→Bool→Bool→(List Eng.V)→Bool→Bool→(List Eng.V)→Bool→Bool→Prop) (k90:oQ6→Prop) (k97:oQ6→Prop) (k104:oQ7→Prop) (k129:oQ8→Prop):(oQ9→Prop)→oQ9→Prop:=fun k134 x135 =>
 (if decide (x135.1.2.2.2.2.2.2.2.1 < x135.2.1.2.2.2.1) then
 xq0f x135.1.1 x135.2.2.2.2.1.2.1 x135.2.2.2.2.2.1.1 x135.2.2.2.2.2.1.2.1 x135.2.2.2.2.2.1.2.2 (fun r136 r137 r138 r139 r140 =>
 xq0f 4 r137 r138 r139 r140 (fun r141 r142 r143 r144 r145 =>
 (if Eng.roomOk (List.length x135.2.2.2.2.2.2.2.2.1+List.length [Eng.V.agg [Eng.V.c (Value.int IntKind.i64 r136),Eng.V.c (Value.int IntKind.i64 r141)]]) (16:Nat) then
 k134 ((x135.1.1,(),(),x135.1.2.2.2.1,(),(),x135.1.2.2.2.2.2.2.1,w64 (x135.1.2.2.2.2.2.2.2.1+1),()),x135.2.1,((),(),(),x135.2.2.1.2.2.2),((),(),(),x135.2.2.2.1.2.2.2),((),r142,()),(r143,r144,r145),x135.2.2.2.2.2.2.1,x135.2.2.2.2.2.2.2.1,x135.2.2.2.2.2.2.2.2.1++[Eng.V.agg [Eng.V.c (Value.int IntKind.i64 r136),Eng.V.c (Value.int IntKind.i64 r141)]],())
 else
 False)))
 else
 xq0e x135.2.1.2.2.1 x135.2.2.2.2.1.2.1 x135.2.2.2.2.2.1.1 x135.2.2.2.2.2.1.2.1 x135.2.2.2.2.2.1.2.2 (fun r146 r147 r148 r149 r150 r151 r152 =>
 xq0e x135.2.1.2.1 r146 r150 r151 r152 (fun r153 r154 r155 r156 r157 r158 r159 =>
 xq1e r147 (fun r160 =>
 xq1e r154 (fun r161 =>
 lp (Lq0w_11 K k90 k97 k104 k129 k134) (((),x135.1.2.2.2.1,(),x135.1.2.2.2.2.2.2.1,(),(),r160,r161,0,()),((),(),(),x135.2.2.1.2.2.2),((),(),(),x135.2.2.2.1.2.2.2),(r147,r148,r149),(r154,r155,r156),x135.2.2.2.2.2.2))))))
def Lq0w_10p:Lp:=⟨2106316,[.trim 2106316,.trim 2106316,.trim 2106316,.trim 2106316,.ren 2512 1872,.fatC 208 2 2 3712,.trim 2106316],opT13,opH14,0⟩
def Lq0w_9 (xq2h:Tq2h) (xq0f:Tq0f) (xq0e:Tq0e) (xq1e:Tq1e) (K:oQ5→Bool→(List Eng.V)→Bool→Bool→(List Eng.V)→Bool→Bool→(List Eng.V)→Bool→Bool→Prop) (k90:oQ6→Prop) (k97:oQ6→Prop) (k104:oQ7→Prop):(oQ8→Prop)→oQ8→Prop:=fun k129 x130 =>
 (if decide (x130.1.2.2.2.2.2.2.2.2.2.1 < x130.2.1.2.2.2.2.2.1) then
 (if 0≤x130.1.2.2.2.2.2.2.2.2.2.1∧x130.1.2.2.2.2.2.2.2.2.2.1 < (↑(List.length x130.2.2.2.2.2.2.1):Int) then
 (Eng.asInt IntKind.i64 (Eng.getC x130.2.2.2.2.2.2.1 (Int.toNat x130.1.2.2.2.2.2.2.2.2.2.1) (0:Nat)) False fun n131 =>
 xq2h x130.1.2.2.2.2.2.2.2.2.1 n131 (fun r132 r133 =>
 (if 0≤x130.1.2.2.2.2.2.2.2.2.2.1∧x130.1.2.2.2.2.2.2.2.2.2.1 < (↑(List.length x130.2.2.2.2.2.2.2.2.1):Int) then
 (if Int.toNat x130.1.2.2.2.2.2.2.2.2.2.1 < List.length x130.2.2.2.2.2.2.2.2.1 then
 (if x130.1.2.2.2.2.2.2.2.1 then
 k129 ((x130.1.1,(),(),x130.1.2.2.2.1,(),(),(),r133,x130.1.2.2.2.2.2.2.2.2.1,w64 (x130.1.2.2.2.2.2.2.2.2.2.1+1),()),x130.2.1,((),(),(),x130.2.2.1.2.2.2),((),(),(),x130.2.2.2.1.2.2.2),((),x130.2.2.2.2.1.2),x130.2.2.2.2.2.1,x130.2.2.2.2.2.2.1,x130.2.2.2.2.2.2.2.1,List.set x130.2.2.2.2.2.2.2.2.1 (Int.toNat x130.1.2.2.2.2.2.2.2.2.2.1) (Eng.setE (List.getD x130.2.2.2.2.2.2.2.2.1 (Int.toNat x130.1.2.2.2.2.2.2.2.2.2.1) Eng.V.bad) (2:Nat) [Eng.V.c (Value.string r132)]),())
 else
 k129 ((x130.1.1,(),(),x130.1.2.2.2.1,(),(),(),false,x130.1.2.2.2.2.2.2.2.2.1,w64 (x130.1.2.2.2.2.2.2.2.2.2.1+1),()),x130.2.1,((),(),(),x130.2.2.1.2.2.2),((),(),(),x130.2.2.2.1.2.2.2),((),x130.2.2.2.2.1.2),x130.2.2.2.2.2.1,x130.2.2.2.2.2.2.1,x130.2.2.2.2.2.2.2.1,List.set x130.2.2.2.2.2.2.2.2.1 (Int.toNat x130.1.2.2.2.2.2.2.2.2.2.1) (Eng.setE (List.getD x130.2.2.2.2.2.2.2.2.1 (Int.toNat x130.1.2.2.2.2.2.2.2.2.2.1) Eng.V.bad) (2:Nat) [Eng.V.c (Value.string r132)]),()))
 else
 False)
 else
 False)))
 else
 False)
 else
 lp (Lq0w_10 xq0f xq0e xq1e K k90 k97 k104 k129) ((x130.1.1,(),(),x130.1.2.2.2.1,(),(),x130.1.2.2.2.2.2.2.2.1,0,()),x130.2.1,((),(),(),x130.2.2.1.2.2.2),((),(),(),x130.2.2.2.1.2.2.2),((),x130.2.2.2.2.1.2),x130.2.2.2.2.2.1,x130.2.2.2.2.2.2.2.1,x130.2.2.2.2.2.2.2.2.1,[],()))
def Lq0w_9p:Lp:=⟨406476,[.trim 406476],opT15,opH16,0⟩
def Lq0w_8 (xq0f:Tq0f) (xq0e:Tq0e) (xq2h:Tq2h) (xq1e:Tq1e) (K:oQ5→Bool→(List Eng.V)→Bool→Bool→(List Eng.V)→Bool→Bool→(List Eng.V)→Bool→Bool→Prop) (k90:oQ6→Prop) (k97:oQ6→Prop):(oQ7→Prop)→oQ7→Prop:=fun k104 x105 =>
 (if decide (x105.1.2.2.2.2.2.2.2.2.1 < x105.2.1.2.2.2.2.2.1) then
 xq0f 4 x105.2.2.2.2.1.2.1 x105.2.2.2.2.2.1.1 x105.2.2.2.2.2.1.2.1 x105.2.2.2.2.2.1.2.2 (fun r106 r107 r108 r109 r110 =>
 xq0f 1 r107 r108 r109 r110 (fun r111 r112 r113 r114 r115 =>
 (if Eng.roomOk (List.length x105.2.2.2.2.2.2.2.2.1+List.length [Eng.V.agg [Eng.V.c (Value.int IntKind.i64 r106),Eng.V.c (Value.bool (r111 == 1)),Eng.V.c (Value.string (ByteArray.mk #[]))]]) (32:Nat) then
 (lt (x105.2.2.2.2.2.2.2.2.1++[Eng.V.agg [Eng.V.c (Value.int IntKind.i64 r106),Eng.V.c (Value.bool (r111 == 1)),Eng.V.c (Value.string (ByteArray.mk #[]))]]) fun v116 =>
 xq0f 1 r112 r113 r114 r115 (fun r117 r118 r119 r120 r121 =>
 (if Eng.roomOk (List.length x105.2.2.2.2.2.2.1+List.length [Eng.V.c (Value.int IntKind.i64 r117)]) (8:Nat) then
 (if x105.1.2.2.2.2.2.2.2.1 then
 k104 ((x105.1.1,(),(),x105.1.2.2.2.1,(),(),(),decide (r111≤1),w64 (x105.1.2.2.2.2.2.2.2.2.1+1),()),x105.2.1,((),(),(),x105.2.2.1.2.2.2),((),(),(),x105.2.2.2.1.2.2.2),((),r118,()),(r119,r120,r121),x105.2.2.2.2.2.2.1++[Eng.V.c (Value.int IntKind.i64 r117)],x105.2.2.2.2.2.2.2.1,v116,())
 else
 k104 ((x105.1.1,(),(),x105.1.2.2.2.1,(),(),(),false,w64 (x105.1.2.2.2.2.2.2.2.2.1+1),()),x105.2.1,((),(),(),x105.2.2.1.2.2.2),((),(),(),x105.2.2.2.1.2.2.2),((),r118,()),(r119,r120,r121),x105.2.2.2.2.2.2.1++[Eng.V.c (Value.int IntKind.i64 r117)],x105.2.2.2.2.2.2.2.1,v116,()))
 else
 False)))
 else
 False)))
 else
 xq0e x105.2.1.2.2.2.2.2.2.1 x105.2.2.2.2.1.2.1 x105.2.2.2.2.2.1.1 x105.2.2.2.2.2.1.2.1 x105.2.2.2.2.2.1.2.2 (fun r122 r123 r124 r125 r126 r127 r128 =>
 (if Eng.allU8 r123 then
 lp (Lq0w_9 xq2h xq0f xq0e xq1e K k90 k97 k104) ((x105.1.1,(),(),x105.1.2.2.2.1,(),(),(),x105.1.2.2.2.2.2.2.2.1,Eng.packB r123,0,()),x105.2.1,((),(),(),x105.2.2.1.2.2.2),((),(),(),x105.2.2.2.1.2.2.2),((),r122,()),(r126,r127,r128),x105.2.2.2.2.2.2)
 else
 False)))
def Lq0w_8p:Lp:=⟨29644,[.trim 29644,.trim 29644,.trim 29644,.trim 29644,.fat 12 1 3360,.trim 29644,.ren 1696 849,.fatC 208 0 3 3696,.trim 29644],opT17,opH18,0⟩
def Lq0w_7 (xq0f:Tq0f) (xq0e:Tq0e) (xq2h:Tq2h) (xq1e:Tq1e) (K:oQ5→Bool→(List Eng.V)→Bool→Bool→(List Eng.V)→Bool→Bool→(List Eng.V)→Bool→Bool→Prop) (k90:oQ6→Prop):(oQ6→Prop)→oQ6→Prop:=fun k97 x98 =>
 (if decide (x98.1.2.2.2.2.2.2.1 < x98.2.1.2.2.2.2.1) then
 xq0f 1 x98.2.2.2.2.1.2.1 x98.2.2.2.2.2.1.1 x98.2.2.2.2.2.1.2.1 x98.2.2.2.2.2.1.2.2 (fun r99 r100 r101 r102 r103 =>
 (if 0≤x98.1.2.2.2.2.2.2.1∧x98.1.2.2.2.2.2.2.1 < (↑(List.length x98.2.2.2.2.2.2.1):Int) then
 (if Int.toNat x98.1.2.2.2.2.2.2.1 < List.length x98.2.2.2.2.2.2.1 then
 k97 ((x98.1.1,(),(),x98.1.2.2.2.1,(),(),w64 (x98.1.2.2.2.2.2.2.1+1),()),x98.2.1,((),(),(),x98.2.2.1.2.2.2),((),(),(),x98.2.2.2.1.2.2.2),((),r100,()),(r101,r102,r103),List.set x98.2.2.2.2.2.2.1 (Int.toNat x98.1.2.2.2.2.2.2.1) (Eng.setE (List.getD x98.2.2.2.2.2.2.1 (Int.toNat x98.1.2.2.2.2.2.2.1) Eng.V.bad) (1:Nat) [Eng.V.c (Value.int IntKind.i64 r99)]),())
 else
 False)
 else
 False))
 else
 lp (Lq0w_8 xq0f xq0e xq2h xq1e K k90 k97) ((x98.1.1,(),(),x98.1.2.2.2.1,(),(),(),true,0,()),x98.2.1,((),(),(),x98.2.2.1.2.2.2),((),(),(),x98.2.2.2.1.2.2.2),((),x98.2.2.2.2.1.2),x98.2.2.2.2.2.1,[],x98.2.2.2.2.2.2.1,[],()))
def Lq0w_7p:Lp:=⟨3020,[.trim 3020,.trim 3020,.trim 3020,.ren 1312 849,.trim 3020],opT19,opH20,0⟩
def Lq0w_6 (xq0f:Tq0f) (xq0e:Tq0e) (xq2h:Tq2h) (xq1e:Tq1e) (K:oQ5→Bool→(List Eng.V)→Bool→Bool→(List Eng.V)→Bool→Bool→(List Eng.V)→Bool→Bool→Prop):(oQ6→Prop)→oQ6→Prop:=fun k90 x91 =>
 (if decide (x91.1.2.2.2.2.2.2.1 < x91.2.1.2.2.2.2.1) then
 xq0f x91.1.1 x91.2.2.2.2.1.2.1 x91.2.2.2.2.2.1.1 x91.2.2.2.2.2.1.2.1 x91.2.2.2.2.2.1.2.2 (fun r92 r93 r94 r95 r96 =>
 (if Eng.roomOk (List.length x91.2.2.2.2.2.2.1+List.length [Eng.V.agg [Eng.V.c (Value.int IntKind.i64 r92),Eng.V.c (Value.int IntKind.i64 0)]]) (16:Nat) then
 k90 ((x91.1.1,(),(),x91.1.2.2.2.1,(),(),w64 (x91.1.2.2.2.2.2.2.1+1),()),x91.2.1,((),(),(),x91.2.2.1.2.2.2),((),(),(),x91.2.2.2.1.2.2.2),((),r93,()),(r94,r95,r96),x91.2.2.2.2.2.2.1++[Eng.V.agg [Eng.V.c (Value.int IntKind.i64 r92),Eng.V.c (Value.int IntKind.i64 0)]],())
 else
 False))
 else
 lp (Lq0w_7 xq0f xq0e xq2h xq1e K k90) ((x91.1.1,(),(),x91.1.2.2.2.1,(),(),0,()),x91.2.1,((),(),(),x91.2.2.1.2.2.2),((),(),(),x91.2.2.2.1.2.2.2),((),x91.2.2.2.2.1.2),x91.2.2.2.2.2))
def Lq0w_6p:Lp:=⟨1996,[.trim 1996,.trim 1996,.trim 1996,.trim 1996,.ren 1072 849,.fatC 208 1 2 3680,.trim 1996],opT21,opH20,0⟩
def Yq0w (xq1r:Tq1r) (xq23:Tq23) (xq1u:Tq1u) (xq0f:Tq0f) (xq2h:Tq2h) (xq0e:Tq0e) (xq1e:Tq1e) (a0:oQ4) (a1:(List Eng.V)) (a2:Int) (K:oQ5→Bool→(List Eng.V)→Bool→Bool→(List Eng.V)→Bool→Bool→(List Eng.V)→Bool→Bool→Prop):Prop :=
 xq1r a0 (fun r3 =>
 (if (!r3) then
 K ((),(),(),ByteArray.mk #[],0,()) false [] true true [] true true [] true true
 else
 (if (a2 != 4) then
 (if (a2 != 8) then
 K ((),(),(),ByteArray.mk #[],0,()) false [] true true [] true true [] true true
 else
 xq23 a0 a2 (fun r4 =>
 (if ((↑(List.length a1):Int) != r4) then
 K ((),(),(),ByteArray.mk #[],0,()) false [] true true [] true true [] true true
 else
 xq1u a1 (fun r5 r6 r7 r8 =>
 lp (Lq0w_6 xq0f xq0e xq2h xq1e K) ((a2,(),(),false,(),(),0,()),a0,((),(),(),ByteArray.mk #[],0,()),((),(),(),ByteArray.mk #[],a0.1,()),((),r5,()),(r6,r7,r8),[],())))))
 else
 xq23 a0 a2 (fun r85 =>
 (if ((↑(List.length a1):Int) != r85) then
 K ((),(),(),ByteArray.mk #[],0,()) false [] true true [] true true [] true true
 else
 xq1u a1 (fun r86 r87 r88 r89 =>
 lp (Lq0w_6 xq0f xq0e xq2h xq1e K) ((a2,(),(),false,(),(),0,()),a0,((),(),(),ByteArray.mk #[],0,()),((),(),(),ByteArray.mk #[],a0.1,()),((),r86,()),(r87,r88,r89),[],())))))))
def Xq0w:Tq0w:=Yq0w Xq1r Xq23 Xq1u Xq0f Xq2h Xq0e Xq1e
def Jq0w (X:Tq0w):Inst:=mkI 110 opL22 .nil opL23 opH24 X
def Iq0w:Inst:=Jq0w Xq0w
theorem Eq0w (xq1r:Tq1r) (xq23:Tq23) (xq1u:Tq1u) (xq0f:Tq0f) (xq2h:Tq2h) (xq0e:Tq0e) (xq1e:Tq1e):EqF Tryz.prog 206 gives Tryz.f110 [Jq1r xq1r,Jq23 xq23,Jq1u xq1u,Jq0f xq0f,Jq2h xq2h,Jq0e xq0e,Jq1e xq1e] [Lq0w_6p,Lq0w_7p,Lq0w_8p,Lq0w_9p,Lq0w_10p,Lq0w_11p] (Jq0w (Yq0w xq1r xq23 xq1u xq0f xq2h xq0e xq1e)):=fun x y K=>by kernel_rfl
theorem Iq0w_ok:InstOk Tryz.prog G.1 Iq0w:=iok (gives:=gives) [Lq0w_6p,Lq0w_7p,Lq0w_8p,Lq0w_9p,Lq0w_10p,Lq0w_11p] (okCons Iq1r_ok (okCons Iq23_ok (okCons Iq1u_ok (okCons Iq0f_ok (okCons Iq2h_ok (okCons Iq0e_ok (okCons Iq1e_ok okNil))))))) 206 follows Tryz.func110 (by kernel_rfl) (fun x=>by kernel_rfl) (Eq0w Xq1r Xq23 Xq1u Xq0f Xq2h Xq0e Xq1e)
abbrev Tq18:Type:=oQ25→(Bool→(List Eng.V)→Bool→Bool→Prop)→Prop
def Yq18 (xq1a:Tq1a) (xq1t:Tq1t) (xq10:Tq10) (xq0y:Tq0y) (a0:oQ25) (K:Bool→(List Eng.V)→Bool→Bool→Prop):Prop :=
 xq1a a0 (fun r1 =>
 (if (!r1) then
 K false [] true true
 else
 xq1t a0 (fun r2 r3 =>
 xq10 r2 (fun r4 r5 r6 r7 =>
 (if (a0.2.2.2.2.1 == 1) then
 xq0y a0 4 (fun r8 r9 r10 r11 =>
 (if (!r8) then
 K false [] true true
 else
 (if r6 then
 (if Eng.roomOk (List.length r5+List.length r9) (1:Nat) then
 K true (r5++r9) r6 r7
 else
 False)
 else
 False)))
 else
 xq0y a0 8 (fun r12 r13 r14 r15 =>
 (if (!r12) then
 K false [] true true
 else
 xq10 (a0.2.2.2.2.1,0,0,0,0,1,1,()) (fun r16 r17 r18 r19 =>
 (if r18 then
 (if Eng.roomOk (List.length r17+(7:Nat)) (1:Nat) then
 (if r18 then
 (if Eng.roomOk (List.length (r17++List.replicate (7:Nat) (Eng.ofVal (Value.int IntKind.u8 0)))+List.length r5) (1:Nat) then
 (if r18 then
 (if Eng.roomOk (List.length (r17++List.replicate (7:Nat) (Eng.ofVal (Value.int IntKind.u8 0))++r5)+List.length r13) (1:Nat) then
 (if (↑((1:Nat)+ByteArray.size a0.2.2.2.1):Int) > 9223372036854775807 then
 False
 else
 (if (↑(ByteArray.size (ByteArray.mk #[(10:UInt8)]++a0.2.2.2.1)+(1:Nat)):Int) > 9223372036854775807 then
 False
 else
 (lt (ByteArray.mk #[(10:UInt8)]++a0.2.2.2.1++ByteArray.mk #[(10:UInt8)]) fun v20 =>
 (if r18 then
 (if Eng.roomOk (List.length (r17++List.replicate (7:Nat) (Eng.ofVal (Value.int IntKind.u8 0))++r5++r13)+List.length (Eng.bytesV v20)) (1:Nat) then
 (lt (r17++List.replicate (7:Nat) (Eng.ofVal (Value.int IntKind.u8 0))++r5++r13++Eng.bytesV v20) fun v21 =>
 K true v21 r18 r19)
 else
 False)
 else
 False))))
 else
 False)
 else
 False)
 else
 False)
 else
 False)
 else
 False)
 else
 False)))))))))
def Xq18:Tq18:=Yq18 Xq1a Xq1t Xq10 Xq0y
def Jq18 (X:Tq18):Inst:=mkI 12 opL26 .nil opL27 opH28 X
def Iq18:Inst:=Jq18 Xq18
theorem Eq18 (xq1a:Tq1a) (xq1t:Tq1t) (xq10:Tq10) (xq0y:Tq0y):EqF Tryz.prog 67 gives Tryz.f12 [Jq1a xq1a,Jq1t xq1t,Jq10 xq10,Jq0y xq0y] [] (Jq18 (Yq18 xq1a xq1t xq10 xq0y)):=fun x y K=>by kernel_rfl
theorem Iq18_ok:InstOk Tryz.prog G.1 Iq18:=iok (gives:=gives) [] (okCons Iq1a_ok (okCons Iq1t_ok (okCons Iq10_ok (okCons Iq0y_ok okNil)))) 67 follows Tryz.func12 (by kernel_rfl) (fun x=>by kernel_rfl) (Eq18 Xq1a Xq1t Xq10 Xq0y)
abbrev Tq25:Type:=(List Eng.V)→(oQ5→Bool→(List Eng.V)→Bool→Bool→(List Eng.V)→Bool→Bool→(List Eng.V)→Bool→Bool→Prop)→Prop
def Yq25 (xq0z:Tq0z) (xq0w:Tq0w) (xq23:Tq23) (xq1w:Tq1w) (a0:(List Eng.V)) (K:oQ5→Bool→(List Eng.V)→Bool→Bool→(List Eng.V)→Bool→Bool→(List Eng.V)→Bool→Bool→Prop):Prop :=
 xq0z a0 (fun r1 r2 =>
 (if (!r2) then
 K ((),(),(),ByteArray.mk #[],0,()) false [] true true [] true true [] true true
 else
 (if 0≤(↑(List.length a0):Int)∧(↑(List.length a0):Int)≤(↑(List.length a0):Int) then
 (if (0 :Int)≤44∧44≤(↑(List.length a0):Int) then
 (if (r1.1 == 1) then
 xq0w r1 (Eng.cutL a0 (44:Nat) (Int.toNat (↑(List.length a0):Int) - (44:Nat))) 4 (fun r3 r4 r5 r6 r7 r8 r9 r10 r11 r12 r13 =>
 K ((),(),(),r3.2.2.2) r4 r5 r6 r7 r8 r9 r10 r11 r12 r13)
 else
 xq23 r1 4 (fun r14 =>
 (if decide ((↑(List.length (Eng.cutL a0 (44:Nat) (Int.toNat (↑(List.length a0):Int) - (44:Nat)))):Int) < r14) then
 K ((),(),(),ByteArray.mk #[],0,()) false [] true true [] true true [] true true
 else
 (if 0≤(↑(List.length (Eng.cutL a0 (44:Nat) (Int.toNat (↑(List.length a0):Int) - (44:Nat)))):Int)∧(↑(List.length (Eng.cutL a0 (44:Nat) (Int.toNat (↑(List.length a0):Int) - (44:Nat)))):Int)≤(↑(List.length (Eng.cutL a0 (44:Nat) (Int.toNat (↑(List.length a0):Int) - (44:Nat)))):Int) then
 (if 0≤r14∧r14≤(↑(List.length (Eng.cutL a0 (44:Nat) (Int.toNat (↑(List.length a0):Int) - (44:Nat)))):Int) then
 (lt (Eng.cutL (Eng.cutL a0 (44:Nat) (Int.toNat (↑(List.length a0):Int) - (44:Nat))) (Int.toNat r14) (Int.toNat (↑(List.length (Eng.cutL a0 (44:Nat) (Int.toNat (↑(List.length a0):Int) - (44:Nat)))):Int) - Int.toNat r14)) fun v15 =>
 xq0z v15 (fun r16 r17 =>
 (if (!r17) then
 K ((),(),(),ByteArray.mk #[],0,()) false [] true true [] true true [] true true
 else
 (if (r16.1 != r1.1) then
 K ((),(),(),ByteArray.mk #[],0,()) false [] true true [] true true [] true true
 else
 (if 0≤(↑(List.length v15):Int)∧(↑(List.length v15):Int)≤(↑(List.length v15):Int) then
 (if (0 :Int)≤44∧44≤(↑(List.length v15):Int) then
 xq23 r16 8 (fun r18 =>
 (if decide ((↑(List.length (Eng.cutL v15 (44:Nat) (Int.toNat (↑(List.length v15):Int) - (44:Nat)))):Int) < r18) then
 K ((),(),(),ByteArray.mk #[],0,()) false [] true true [] true true [] true true
 else
 (if 0≤r18∧r18≤(↑(List.length (Eng.cutL v15 (44:Nat) (Int.toNat (↑(List.length v15):Int) - (44:Nat)))):Int) then
 (if (0 :Int)≤0∧0≤r18 then
 (dup (
 xq0w r16 (Eng.cutL (Eng.cutL v15 (44:Nat) (Int.toNat (↑(List.length v15):Int) - (44:Nat))) (0:Nat) (Int.toNat r18 - (0:Nat))) 8 (fun r19 r20 r21 r22 r23 r24 r25 r26 r27 r28 r29 =>
 (if 0≤(↑(List.length (Eng.cutL v15 (44:Nat) (Int.toNat (↑(List.length v15):Int) - (44:Nat)))):Int)∧(↑(List.length (Eng.cutL v15 (44:Nat) (Int.toNat (↑(List.length v15):Int) - (44:Nat)))):Int)≤(↑(List.length (Eng.cutL v15 (44:Nat) (Int.toNat (↑(List.length v15):Int) - (44:Nat)))):Int) then
 (if 0≤r18∧r18≤(↑(List.length (Eng.cutL v15 (44:Nat) (Int.toNat (↑(List.length v15):Int) - (44:Nat)))):Int) then
 (lt (Eng.cutL (Eng.cutL v15 (44:Nat) (Int.toNat (↑(List.length v15):Int) - (44:Nat))) (Int.toNat r18) (Int.toNat (↑(List.length (Eng.cutL v15 (44:Nat) (Int.toNat (↑(List.length v15):Int) - (44:Nat)))):Int) - Int.toNat r18)) fun v30 =>
 xq1w v30 (fun r31 r32 =>
 (if (!r20) then
 K ((),(),(),ByteArray.mk #[],0,()) false [] true true [] true true [] true true
 else
 (if (!r32) then
 K ((),(),(),ByteArray.mk #[],0,()) false [] true true [] true true [] true true
 else
 K ((),(),(),r31,r19.2.2.2.2) true r21 r22 r23 r24 r25 r26 r27 r28 r29))))
 else
 False)
 else
 False))))
 else
 False)
 else
 False)))
 else
 False)
 else
 False)))))
 else
 False)
 else
 False))))
 else
 False)
 else
 False)))
def Xq25:Tq25:=Yq25 Xq0z Xq0w Xq23 Xq1w
def Jq25 (X:Tq25):Inst:=mkI 46 opL29 .nil opL23 opH24 X
def Iq25:Inst:=Jq25 Xq25
theorem Eq25 (xq0z:Tq0z) (xq0w:Tq0w) (xq23:Tq23) (xq1w:Tq1w):EqF Tryz.prog 90 gives Tryz.f46 [Jq0z xq0z,Jq0w xq0w,Jq23 xq23,Jq1w xq1w] [] (Jq25 (Yq25 xq0z xq0w xq23 xq1w)):=fun x y K=>by kernel_rfl
theorem Iq25_ok:InstOk Tryz.prog G.1 Iq25:=iok (gives:=gives) [] (okCons Iq0z_ok (okCons Iq0w_ok (okCons Iq23_ok (okCons Iq1w_ok okNil)))) 90 follows Tryz.func46 (by kernel_rfl) (fun x=>by kernel_rfl) (Eq25 Xq0z Xq0w Xq23 Xq1w)
abbrev Tq14:Type:=(List Eng.V)→(oQ5→Int→(List Eng.V)→Bool→Bool→(List Eng.V)→Bool→Bool→(List Eng.V)→Bool→Bool→Prop)→Prop
def Yq14 (xq25:Tq25) (xq1a:Tq1a) (a0:(List Eng.V)) (K:oQ5→Int→(List Eng.V)→Bool→Bool→(List Eng.V)→Bool→Bool→(List Eng.V)→Bool→Bool→Prop):Prop :=
 xq25 a0 (fun r1 r2 r3 r4 r5 r6 r7 r8 r9 r10 r11 =>
 (if (!r2) then
 K ((),(),(),ByteArray.mk #[],0,()) 2 [] true true [] true true [] true true
 else
 xq1a (r3,r6,r9,r1.2.2.2) (fun r12 =>
 (if (!r12) then
 K ((),(),(),ByteArray.mk #[],0,()) 9 [] true true [] true true [] true true
 else
 K ((),(),(),r1.2.2.2) 0 r3 r4 r5 r6 r7 r8 r9 r10 r11))))
def Xq14:Tq14:=Yq14 Xq25 Xq1a
def Jq14 (X:Tq14):Inst:=mkI 14 opL29 .nil opL30 opH24 X
def Iq14:Inst:=Jq14 Xq14
theorem Eq14 (xq25:Tq25) (xq1a:Tq1a):EqF Tryz.prog 19 gives Tryz.f14 [Jq25 xq25,Jq1a xq1a] [] (Jq14 (Yq14 xq25 xq1a)):=fun x y K=>by kernel_rfl
theorem Iq14_ok:InstOk Tryz.prog G.1 Iq14:=iok (gives:=gives) [] (okCons Iq25_ok (okCons Iq1a_ok okNil)) 19 follows Tryz.func14 (by kernel_rfl) (fun x=>by kernel_rfl) (Eq14 Xq25 Xq1a)
abbrev Tq1c:Type:=(List Eng.V)→(Bool→Prop)→Prop
def Yq1c (xq14:Tq14) (a0:(List Eng.V)) (K:Bool→Prop):Prop :=
 xq14 a0 (fun r1 r2 r3 r4 r5 r6 r7 r8 r9 r10 r11 =>
 K (r2 == 0))
def Xq1c:Tq1c:=Yq1c Xq14
def Jq1c (X:Tq1c):Inst:=mkI 17 opL29 .nil opL31 .nil X
def Iq1c:Inst:=Jq1c Xq1c
theorem Eq1c (xq14:Tq14):EqF Tryz.prog 12 gives Tryz.f17 [Jq14 xq14] [] (Jq1c (Yq1c xq14)):=fun x y K=>by kernel_rfl
theorem Iq1c_ok:InstOk Tryz.prog G.1 Iq1c:=iok (gives:=gives) [] (okCons Iq14_ok okNil) 12 follows Tryz.func17 (by kernel_rfl) (fun x=>by kernel_rfl) (Eq1c Xq14)
abbrev Tq0g:Type:=oQ25→(List Eng.V)→(Bool→Prop)→Prop
def Lq0g_0 (xq14:Tq14) (xq22:Tq22) (xq3f:Tq3f) (xq1c:Tq1c) (K:Bool→Prop):(oQ32→Prop)→oQ32→Prop:=fun k23 x24 =>
 (if decide (x24.1.2.2.2.2.2.2.2.2.2.2.1 < (↑(List.length x24.2.2.2.2.1):Int)) then
 (if 0≤x24.1.2.2.2.2.2.2.2.2.2.2.1∧x24.1.2.2.2.2.2.2.2.2.2.2.1 < (↑(List.length x24.2.2.2.2.1):Int) then
 (if Int.toNat x24.1.2.2.2.2.2.2.2.2.2.2.1 < List.length x24.2.2.2.2.1 then
 k23 ((x24.1.1,x24.1.2.1,x24.1.2.2.1,(),x24.1.2.2.2.2.1,(),x24.1.2.2.2.2.2.2.1,(),(),x24.1.2.2.2.2.2.2.2.2.2.1,w64 (x24.1.2.2.2.2.2.2.2.2.2.2.1+1),()),((),(),(),x24.2.1.2.2.2),x24.2.2.1,x24.2.2.2.1,List.set x24.2.2.2.2.1 (Int.toNat x24.1.2.2.2.2.2.2.2.2.2.2.1) (Eng.setE (List.getD x24.2.2.2.2.1 (Int.toNat x24.1.2.2.2.2.2.2.2.2.2.2.1) Eng.V.bad) (0:Nat) [Eng.V.c (Value.int IntKind.u8 77)]),x24.2.2.2.2.2)
 else
 False)
 else
 False)
 else
 xq14 x24.1.1 (fun r25 r26 r27 r28 r29 r30 r31 r32 r33 r34 r35 =>
 (if x24.1.2.2.1 then
 (if Eng.allU8 x24.2.2.1.1 then
 (if Eng.allU8 x24.2.2.2.1.1 then
 (if (ByteArray.toList (Eng.packB x24.2.2.1.1) == ByteArray.toList (Eng.packB x24.2.2.2.1.1)) then
 (if (x24.1.2.2.2.2.1 == x24.1.2.2.2.2.2.2.1) then
 xq22 (x24.2.2.2.2.2.1.1,x24.2.2.2.2.2.2.1.1,x24.2.2.2.2.2.2.2.1.1,x24.2.1.2.2.2) (r27,r30,r33,r25.2.2.2) (fun r36 =>
 (if r36 then
 (if (x24.1.2.2.2.2.2.2.2.2.2.1 == r26) then
 xq3f x24.1.1 (fun r37 =>
 xq1c x24.1.1 (fun r38 =>
 K (r37 == r38)))
 else
 K false)
 else
 K false))
 else
 K false)
 else
 K false)
 else
 False)
 else
 False)
 else
 K false)))
def Lq0g_0p:Lp:=⟨32690,[.trim 32690],opT33,opH34,0⟩
def Yq0g (xq1o:Tq1o) (xq2c:Tq2c) (xq2u:Tq2u) (xq18:Tq18) (xq33:Tq33) (xq14:Tq14) (xq22:Tq22) (xq3f:Tq3f) (xq1c:Tq1c) (a0:oQ25) (a1:(List Eng.V)) (K:Bool→Prop):Prop :=
 xq1o (fun r2 =>
 xq2c a0 (fun r3 =>
 (if (!r3) then
 K r2
 else
 (if decide ((↑(List.length a1):Int) > 4000) then
 K r2
 else
 xq2u a0 (fun r4 r5 r6 r7 =>
 xq18 a0 (fun r8 r9 r10 r11 =>
 (if Eng.roomOk ((0:Nat)+List.length a1) (1:Nat) then
 xq33 ([]++a1) (fun r12 r13 r14 r15 r16 r17 r18 r19 r20 r21 r22 =>
 (if ((!r16 || List.isEmpty r14) && Eng.plainL r14) then
 (if ((!r19 || List.isEmpty r17) && Eng.plainL r17) then
 (if ((!r22 || List.isEmpty r20) && Eng.plainL r20) then
 lp (Lq0g_0 xq14 xq22 xq3f xq1c K) ((a1,false,r2,(),r4,(),r8,(),(),r13,0,()),((),(),(),r12.2.2.2),(r5,r6,r7),(r9,r10,r11),[]++a1,(r14,r15,r16),(r17,r18,r19),(r20,r21,r22),())
 else
 False)
 else
 False)
 else
 False))
 else
 False)))))))
def Xq0g:Tq0g:=Yq0g Xq1o Xq2c Xq2u Xq18 Xq33 Xq14 Xq22 Xq3f Xq1c
def Jq0g (X:Tq0g):Inst:=mkI 3 opL35 .nil opL31 .nil X
def Iq0g:Inst:=Jq0g Xq0g
theorem Eq0g (xq1o:Tq1o) (xq2c:Tq2c) (xq2u:Tq2u) (xq18:Tq18) (xq33:Tq33) (xq14:Tq14) (xq22:Tq22) (xq3f:Tq3f) (xq1c:Tq1c):EqF Tryz.prog 90 gives Tryz.f3 [Jq1o xq1o,Jq2c xq2c,Jq2u xq2u,Jq18 xq18,Jq33 xq33,Jq14 xq14,Jq22 xq22,Jq3f xq3f,Jq1c xq1c] [Lq0g_0p] (Jq0g (Yq0g xq1o xq2c xq2u xq18 xq33 xq14 xq22 xq3f xq1c)):=fun x y K=>by kernel_rfl
theorem Iq0g_ok:InstOk Tryz.prog G.1 Iq0g:=iok (gives:=gives) [Lq0g_0p] (okCons Iq1o_ok (okCons Iq2c_ok (okCons Iq2u_ok (okCons Iq18_ok (okCons Iq33_ok (okCons Iq14_ok (okCons Iq22_ok (okCons Iq3f_ok (okCons Iq1c_ok okNil))))))))) 90 follows Tryz.func3 (by kernel_rfl) (fun x=>by kernel_rfl) (Eq0g Xq1o Xq2c Xq2u Xq18 Xq33 Xq14 Xq22 Xq3f Xq1c)
end Go.Proofs.YtbnpclndiichcaaGreatDoor
end
section
set_option linter.unusedVariables false
set_option linter.unusedSimpArgs false
namespace Go.Proofs.YtbnpclndiichcaaGreatDoor
open Go Go.Proofs.YtbnpclndiichcaaGreatDoor.Eng
abbrev akTzifTells0:AK:=(.st (.cons (.sl (.st (.cons (.int .i64) (.cons .bool (.cons .str .nil))))) (.cons (.sl (.st (.cons (.int .i64) (.cons (.int .i64) .nil)))) (.cons (.sl (.st (.cons (.int .i64) (.cons (.int .i64) .nil)))) (.cons .str (.cons (.int .i64) .nil))))))
abbrev akTzifTells1:AK:=(.sl (.int .u8))
def PureTzifTells:Prop:=∀ (a0:akTzifTells0.T) (h0:akTzifTells0.good a0) (a1:akTzifTells1.T) (h1:akTzifTells1.good a1),Xq0g (akTzifTells0.DV a0) (akTzifTells1.DV a1) (fun b=>b=true)
end Go.Proofs.YtbnpclndiichcaaGreatDoor
end
section
set_option linter.unusedVariables false
set_option linter.unusedSimpArgs false
namespace Go.Proofs.YtbnpclndiichcaaGreatDoor.Pl
open Go
def digsN:Nat→Nat→List UInt8
 | 0,_=>[]
 | k+1,u=>if u < 10 then [UInt8.ofNat (48+u)] else digsN k (u / 10)++[UInt8.ofNat (48+u % 10)]
def itoaK (n:Int):List UInt8:=if n < 0 then 45 :: digsN 20 n.natAbs else digsN 20 n.toNat
def isDig (c:UInt8):Bool:=48≤c.toNat && c.toNat≤57
abbrev S (l:List UInt8):ByteArray:=⟨l.toArray⟩
theorem S_size (l:List UInt8):(S l).size=l.length:=by simp [S,ByteArray.size]
theorem S_sizeI (l:List UInt8):((S l).size:Int)=(l.length:Int):=by rw [S_size]
theorem S_append (a b:List UInt8):S a++S b=S (a++b):=ByteArray.mk_append_mk a b
theorem S_toList (l:List UInt8):(S l).toList=l:=ByteArray.toList_mk l
theorem S_data (l:List UInt8):(S l).data.toList=l:=by simp [S]
theorem S_extract (l:List UInt8) (a b:Nat):(S l).extract a b=S ((l.drop a).take (b - a)):=by rw [Lib.extract_eq,S_data]
theorem S_take (l:List UInt8) (b:Nat):(S l).extract 0 b=S (l.take b):=by rw [S_extract]; simp
theorem u8_eq {a b:UInt8} (h:a.toNat=b.toNat):a=b:=UInt8.toNat_inj.1 h
def dl (l:List UInt8):Nat:=(l.takeWhile isDig).length
theorem dl_le (l:List UInt8):dl l≤l.length:=by unfold dl; exact (List.takeWhile_sublist _).length_le
theorem dl_cons (c:UInt8) (l:List UInt8):dl (c :: l)=if isDig c=true then dl l+1 else 0:=by
 unfold dl; rw [List.takeWhile_cons]; split <;> simp
def valL (l:List UInt8):Nat:=l.foldl (fun n c=>10 * n+(c.toNat - 48)) 0
theorem decFrom_val:∀ (l:List UInt8) (acc:Nat),(∀ c∈l,isDig c=true)→Lib.decFrom acc l=some (l.foldl (fun n c=>10 * n+(c.toNat - 48)) acc)
 | [],acc,_=>rfl
 | c :: l,acc,h=>by
  have hc:isDig c=true:=h c (by simp)
  unfold isDig at hc
  simp at hc
  unfold Lib.decFrom Lib.digitVal
  rw [if_pos hc]
  simp only []
  rw [decFrom_val l _ (fun c' hc'=>h c' (by simp [hc'])),List.foldl_cons,Nat.mul_comm]
theorem atoi_val (l:List UInt8) (hne:l≠[]) (h:∀ c∈l,isDig c=true):Lib.atoi l=some (valL l:Int):=by
 cases l with
 | nil=>exact absurd rfl hne
 | cons c r =>
  have hc:isDig c=true:=h c (by simp)
  unfold isDig at hc
  simp at hc
  have h1:(c == 45)=false:=by rw [beq_eq_false_iff_ne]; rintro rfl; simp at hc
  have h2:(c == 43)=false:=by rw [beq_eq_false_iff_ne]; rintro rfl; simp at hc
  simp only [Lib.atoi,Lib.decNat,h1,h2,Bool.false_eq_true,if_false,List.isEmpty_cons]
  rw [decFrom_val _ _ h]
  rfl
theorem take_dl_dig (l:List UInt8) (k:Nat) (h:k≤dl l):∀ c∈l.take k,isDig c=true:=by
 intro c hc
 have hs:l.take k=(l.takeWhile isDig).take k:=by
  conv=>lhs; rw [← List.takeWhile_append_dropWhile (p:=isDig) (l:=l)]
  rw [List.take_append_of_le_length h]
 rw [hs] at hc
 have hall:(l.takeWhile isDig).all isDig=true:=List.all_takeWhile
 exact List.all_eq_true.1 hall c (List.mem_of_mem_take hc)
end Go.Proofs.YtbnpclndiichcaaGreatDoor.Pl
end
section
set_option linter.unusedVariables false
set_option linter.unusedSimpArgs false
namespace Go.Proofs.YtbnpclndiichcaaGreatDoor.Pl
open Go
def sixtyL:List UInt8→Int×List UInt8×Bool
 | c :: a :: b :: r=>if c=58∧isDig a=true∧isDig b=true∧a.toNat≤53 then (10 * (a.toNat - 48)+(b.toNat - 48),r,true) else (0,c :: a :: b :: r,false)
 | l=>(0,l,false)
theorem foldl_lt:∀ (l:List UInt8) (acc:Nat),(∀ c∈l,isDig c=true)→l.foldl (fun n c=>10 * n+(c.toNat - 48)) acc < (acc+1) * 10 ^ l.length
 | [],acc,_=>by simp
 | c :: l,acc,h=>by
  have hc:isDig c=true:=h c (by simp)
  unfold isDig at hc
  simp at hc
  have:=foldl_lt l (10 * acc+(c.toNat - 48)) (fun c' hc'=>h c' (by simp [hc']))
  rw [List.foldl_cons,List.length_cons,Nat.pow_succ]
  refine Nat.lt_of_lt_of_le this ?_
  have h1:(10 * acc+(c.toNat - 48)+1)≤(acc+1) * 10:=by omega
  calc (10 * acc+(c.toNat - 48)+1) * 10 ^ l.length≤((acc+1) * 10) * 10 ^ l.length:=Nat.mul_le_mul_right _ h1
   _=(acc+1) * (10 ^ l.length * 10):=by rw [Nat.mul_assoc,Nat.mul_comm 10]
theorem valL_lt (l:List UInt8) (h:∀ c∈l,isDig c=true):valL l < 10 ^ l.length:=by
 have:=foldl_lt l 0 h
 simpa [valL] using this
theorem sixty_bd (l:List UInt8):0≤(sixtyL l).1∧(sixtyL l).1≤59:=by
 unfold sixtyL
 split
 ·split
  ·rename_i h
   obtain ⟨_,ha,hb,h5⟩:=h
   unfold isDig at ha hb
   simp at ha hb
   simp only []
   omega
  ·simp
 ·simp
def signL:List UInt8→Int×List UInt8
 | []=>(1,[])
 | c :: r=>if c=45 then (-1,r) else if c=43 then (1,r) else (1,c :: r)
def hourL (t:List UInt8):Nat×Nat :=
 if valL (t.take (min (dl t) 3)) > 167 then (valL (t.take (min (dl t) 3)) / 10,min (dl t) 3 - 1) else (valL (t.take (min (dl t) 3)),min (dl t) 3)
def moreL (p:Int×List UInt8×Bool):Int×List UInt8×Bool:=if p.2.2=true then sixtyL p.2.1 else (0,p.2.1,false)
def timeL (l:List UInt8):Int×List UInt8×Bool :=
 if dl (signL l).2=0 then (0,l,false)
 else
  ((signL l).1 * ((hourL (signL l).2).1 * 3600+(sixtyL ((signL l).2.drop (hourL (signL l).2).2)).1 * 60+(moreL (sixtyL ((signL l).2.drop (hourL (signL l).2).2))).1),
   (moreL (sixtyL ((signL l).2.drop (hourL (signL l).2).2))).2.1,true)
theorem hour_bd (t:List UInt8):(hourL t).1≤167∧(hourL t).2≤dl t∧(hourL t).2≤3∧(dl t≠0→1≤(hourL t).2):=by
 have hv:valL (t.take (min (dl t) 3)) < 10 ^ (t.take (min (dl t) 3)).length:=valL_lt _ (take_dl_dig t _ (Nat.min_le_left _ _))
 have hl:(t.take (min (dl t) 3)).length≤3:=by rw [List.length_take]; omega
 have h3:10 ^ (t.take (min (dl t) 3)).length≤10 ^ 3:=Nat.pow_le_pow_right (by omega) hl
 have hm:min (dl t) 3≤dl t:=Nat.min_le_left _ _
 have hm3:min (dl t) 3≤3:=Nat.min_le_right _ _
 unfold hourL
 split
 ·rename_i hgt
  refine ⟨by simp only []; omega,by simp only []; omega,by simp only []; omega,fun h0=>?_⟩
  simp only []
  have:¬ (t.take (min (dl t) 3)).length≤1:=fun h1=>by
   have:10 ^ (t.take (min (dl t) 3)).length≤10 ^ 1:=Nat.pow_le_pow_right (by omega) h1
   omega
  rw [List.length_take] at this
  omega
 ·refine ⟨by simp only []; omega,by simp only []; omega,by simp only []; omega,fun h0=>by simp only []; omega⟩
def pairL (m:Nat):List UInt8:=58 :: (digsN 20 (m / 10)++digsN 20 (m % 10))
def clockB (a:Nat):List UInt8:=digsN 20 (a / 3600)++(if a % 60≠0 then pairL (a / 60 % 60)++pairL (a % 60) else if a / 60 % 60≠0 then pairL (a / 60 % 60) else [])
def clockL (sec:Int):List UInt8×Bool:=if -604799≤sec∧sec≤604799 then ((if sec < 0 then [45] else [])++clockB sec.natAbs,true) else ([],false)
theorem sixty_drop (l:List UInt8):∃ j,j≤l.length∧(sixtyL l).2.1=l.drop j:=by
 unfold sixtyL
 split
 ·split
  ·exact ⟨3,by simp,rfl⟩
  ·exact ⟨0,by simp,rfl⟩
 ·exact ⟨0,by simp,rfl⟩
theorem sign_drop (l:List UInt8):∃ j,j≤l.length∧(signL l).2=l.drop j∧((signL l).1=1∨(signL l).1=-1):=by
 unfold signL
 split
 ·exact ⟨0,by simp,rfl,.inl rfl⟩
 ·split
  ·exact ⟨1,by simp,rfl,.inr rfl⟩
  ·split
   ·exact ⟨1,by simp,rfl,.inl rfl⟩
   ·exact ⟨0,by simp,rfl,.inl rfl⟩
theorem time_drop (l:List UInt8):∃ j,j≤l.length∧(timeL l).2.1=l.drop j∧((timeL l).2.2=true↔0 < j)∧-604799≤(timeL l).1∧(timeL l).1≤604799∧((timeL l).2.2=false→(timeL l).1=0∧j=0):=by
 obtain ⟨j0,h0,e0,hs⟩:=sign_drop l
 unfold timeL
 by_cases hd:dl (signL l).2=0
 ·rw [if_pos hd]
  exact ⟨0,by omega,by simp,by simp,by simp,by simp,by simp⟩
 ·rw [if_neg hd]
  obtain ⟨b1,b2,b3,b4⟩:=hour_bd (signL l).2
  have b4':=b4 hd
  have hdl:=dl_le (signL l).2
  obtain ⟨j1,h1,e1⟩:=sixty_drop ((signL l).2.drop (hourL (signL l).2).2)
  have s1:=sixty_bd ((signL l).2.drop (hourL (signL l).2).2)
  have key:∃ j2,j2≤(sixtyL ((signL l).2.drop (hourL (signL l).2).2)).2.1.length∧(moreL (sixtyL ((signL l).2.drop (hourL (signL l).2).2))).2.1=(sixtyL ((signL l).2.drop (hourL (signL l).2).2)).2.1.drop j2 ∧
    0≤(moreL (sixtyL ((signL l).2.drop (hourL (signL l).2).2))).1∧(moreL (sixtyL ((signL l).2.drop (hourL (signL l).2).2))).1≤59:=by
   unfold moreL
   split
   ·obtain ⟨j2,h2,e2⟩:=sixty_drop (sixtyL ((signL l).2.drop (hourL (signL l).2).2)).2.1
    exact ⟨j2,h2,e2,sixty_bd _⟩
   ·exact ⟨0,by omega,rfl,by simp,by simp⟩
  obtain ⟨j2,h2,e2,hb1,hb2⟩:=key
  rw [e2,e1,e0,List.drop_drop,List.drop_drop,List.drop_drop]
  rw [e1] at h2
  rw [e0] at h1 h2 hdl b2
  simp only [List.length_drop] at h1 h2 hdl
  rw [e0] at b4' b3 s1 hb1 hb2
  refine ⟨_,?_,rfl,?_,?_⟩
  ·omega
  ·simp; omega
  ·generalize (sixtyL (List.drop (hourL (List.drop j0 l)).2 (List.drop j0 l))).1=x at *
   generalize (moreL (sixtyL (List.drop (hourL (List.drop j0 l)).2 (List.drop j0 l)))).1=y at *
   rw [e0] at b1
   generalize (hourL (List.drop j0 l)).1=v at *
   rcases hs with hs | hs <;> rw [hs] <;> refine ⟨?_,?_,by simp⟩ <;> omega
end Go.Proofs.YtbnpclndiichcaaGreatDoor.Pl
end
section
set_option linter.unusedVariables false
set_option linter.unusedSimpArgs false
namespace Go.Proofs.YtbnpclndiichcaaGreatDoor.Pl
open Go
def leapY (y:Int):Bool:=decide (y % 4=0∧(y % 100≠0∨y % 400=0))
def fst (y:Int):Int:=365 * (y - 1)+(y - 1) / 4 - (y - 1) / 100+(y - 1) / 400 - 719162
def cum0 (m:Int):Int:=if m=1 then 0 else if m=2 then 31 else if m=3 then 59 else if m=4 then 90 else if m=5 then 120 else if m=6 then 151 else if m=7 then 181 else if m=8 then 212 else if m=9 then 243 else if m=10 then 273 else if m=11 then 304 else if m=12 then 334 else 365
def cum (y m:Int):Int:=cum0 m+if 2 < m∧leapY y=true then 1 else 0
def dim (y m:Int):Int:=if m=2 then (if leapY y=true then 29 else 28) else if m=4 then 30 else if m=6 then 30 else if m=9 then 30 else if m=11 then 30 else 31
def num (y m d:Int):Int:=fst y+cum y m+d - 1
def st (b:Int):Int:=365 * b+b / 4 - b / 100
def gy (o:Int):Int:=o - o / 1460+o / 36524 - o / 146096
def era (n:Int):Int:=(n+719468) / 146097
def ofE (n:Int):Int:=(n+719468) % 146097
def yrs (n:Int):Int:=gy (ofE n) / 365
def doy (n:Int):Int:=ofE n - st (yrs n)
def mon (n:Int):Int:=(5 * doy n+2) / 153
def dayP (n:Int):Int:=doy n - (153 * mon n+2) / 5+1
def monP (n:Int):Int:=if mon n+3 > 12 then mon n+3 - 12 else mon n+3
def yearP (n:Int):Int:=400 * era n+(if mon n+3 > 12 then yrs n+1 else yrs n)
def wk (n:Int):Int:=(n+4) % 7
end Go.Proofs.YtbnpclndiichcaaGreatDoor.Pl
end
section
set_option linter.unusedVariables false
set_option linter.unusedSimpArgs false
namespace Go.Proofs.YtbnpclndiichcaaGreatDoor.Pl
open Go
def rightR (K A B C X:Int):Bool :=
 decide ((-604799≤X∧X≤604799)∧((K=0∧1≤A∧A≤12∧1≤B∧B≤5∧0≤C∧C≤6)∨(K=1∧1≤A∧A≤365∧B=0∧C=0)∨(K=2∧0≤A∧A≤365∧B=0∧C=0)))
theorem right_iff (K A B C X:Int):rightR K A B C X=true↔((-604799≤X∧X≤604799)∧((K=0∧1≤A∧A≤12∧1≤B∧B≤5∧0≤C∧C≤6)∨(K=1∧1≤A∧A≤365∧B=0∧C=0)∨(K=2∧0≤A∧A≤365∧B=0∧C=0))):=by
 unfold rightR; exact decide_eq_true_iff
def offW (A B C y:Int):Int:=let k:=(C - wk (num y A 1)+7) % 7+7 * (B - 1); if k≥dim y A then k - 7 else k
def ruleDay (K A B C y:Int):Int:=if K=2 then fst y+A else if K=1 then (if A≤59∨leapY y=false then fst y - 1+A else fst y+A) else num y A 1+offW A B C y
def cutP (c:UInt8) (l:List UInt8):List UInt8×Bool:=if l.head? = some c then (l.tail,true) else (l,false)
theorem cut_drop (c:UInt8) (l:List UInt8):∃ j,j≤l.length∧(cutP c l).1=l.drop j:=by
 unfold cutP
 split
 ·cases l with
  | nil=>rename_i h; simp at h
  | cons a r=>exact ⟨1,by simp,rfl⟩
 ·exact ⟨0,by omega,rfl⟩
def numberL (l:List UInt8) (m:Nat):Int×List UInt8×Bool:=if dl l=0∨m < dl l then (0,l,false) else ((valL (l.take (dl l)):Int),l.drop (dl l),true)
theorem numberL_drop (l:List UInt8) (m:Nat):∃ j,j≤l.length∧(numberL l m).2.1=l.drop j∧((numberL l m).2.2=true→0 < j):=by
 unfold numberL
 split
 ·exact ⟨0,by omega,rfl,by simp⟩
 ·exact ⟨dl l,dl_le l,rfl,fun _=>by omega⟩
theorem numberL_bd (l:List UInt8) (m:Nat):0≤(numberL l m).1∧((numberL l m).1:Int) < ((10 ^ m:Nat):Int):=by
 unfold numberL
 have h1:0 < 10 ^ m:=Nat.pos_of_ne_zero (by simp)
 split
 ·simp only []; omega
 ·rename_i h
  have hv:=valL_lt _ (take_dl_dig l _ (Nat.le_refl _))
  have h2:10 ^ (l.take (dl l)).length≤10 ^ m:=Nat.pow_le_pow_right (by omega) (by rw [List.length_take]; omega)
  simp only []; omega
def weekL (l:List UInt8):Int×Int×Int×List UInt8×Bool :=
 ((numberL l 2).1,(numberL (cutP 46 (numberL l 2).2.1).1 1).1,(numberL (cutP 46 (numberL (cutP 46 (numberL l 2).2.1).1 1).2.1).1 1).1,
  (numberL (cutP 46 (numberL (cutP 46 (numberL l 2).2.1).1 1).2.1).1 1).2.1,
  (numberL l 2).2.2 && (numberL (cutP 46 (numberL l 2).2.1).1 1).2.2 && (numberL (cutP 46 (numberL (cutP 46 (numberL l 2).2.1).1 1).2.1).1 1).2.2 && (cutP 46 (numberL l 2).2.1).2 && (cutP 46 (numberL (cutP 46 (numberL l 2).2.1).1 1).2.1).2)
theorem weekL_drop (l:List UInt8):∃ j,j≤l.length∧(weekL l).2.2.2.1=l.drop j∧((weekL l).2.2.2.2=true→0 < j):=by
 unfold weekL
 obtain ⟨j1,h1,e1,p1⟩:=numberL_drop l 2
 obtain ⟨j2,h2,e2⟩:=cut_drop 46 (numberL l 2).2.1
 obtain ⟨j3,h3,e3,_⟩:=numberL_drop (cutP 46 (numberL l 2).2.1).1 1
 obtain ⟨j4,h4,e4⟩:=cut_drop 46 (numberL (cutP 46 (numberL l 2).2.1).1 1).2.1
 obtain ⟨j5,h5,e5,_⟩:=numberL_drop (cutP 46 (numberL (cutP 46 (numberL l 2).2.1).1 1).2.1).1 1
 refine ⟨j1+j2+j3+j4+j5,?_,?_,?_⟩
 ·rw [e4,List.length_drop,e3,List.length_drop,e2,List.length_drop,e1,List.length_drop] at h5
  rw [e3,List.length_drop,e2,List.length_drop,e1,List.length_drop] at h4
  rw [e2,List.length_drop,e1,List.length_drop] at h3
  rw [e1,List.length_drop] at h2
  omega
 ·simp only []
  rw [e5,e4,e3,e2,e1]
  simp only [List.drop_drop]
 ·intro h
  simp only [Bool.and_eq_true] at h
  have:=p1 h.1.1.1.1
  omega
def dateL (l:List UInt8):Int×Int×Int×Int×List UInt8×Bool :=
 if l.head? = some 77 then (0,weekL l.tail) else if l.head? = some 74 then (1,(numberL l.tail 3).1,0,0,(numberL l.tail 3).2) else (2,(numberL l 3).1,0,0,(numberL l 3).2)
theorem dateL_drop (l:List UInt8):∃ j,j≤l.length∧(dateL l).2.2.2.2.1=l.drop j∧((dateL l).2.2.2.2.2=true→0 < j):=by
 unfold dateL
 by_cases h:l.head? = some 77
 ·rw [if_pos h]
  obtain ⟨a,r,rfl⟩:∃ a r,l=a :: r:=by cases l with | nil=>simp at h | cons a r=>exact ⟨a,r,rfl⟩
  obtain ⟨j,hj,e,_⟩:=weekL_drop r
  exact ⟨j+1,by simp; omega,e,fun _=>by omega⟩
 ·rw [if_neg h]
  by_cases h':l.head? = some 74
  ·rw [if_pos h']
   obtain ⟨a,r,rfl⟩:∃ a r,l=a :: r:=by cases l with | nil=>simp at h' | cons a r=>exact ⟨a,r,rfl⟩
   obtain ⟨j,hj,e,_⟩:=numberL_drop r 3
   exact ⟨j+1,by simp; omega,e,fun _=>by omega⟩
  ·rw [if_neg h']
   exact numberL_drop l 3
def parseL (l:List UInt8):Int×Int×Int×Int×Int×List UInt8×Bool :=
 if (dateL l).2.2.2.2.2=true then
  (if (dateL l).2.2.2.2.1.head? = some 47 then
   (if (timeL (dateL l).2.2.2.2.1.tail).2.2=true∧rightR (dateL l).1 (dateL l).2.1 (dateL l).2.2.1 (dateL l).2.2.2.1 (timeL (dateL l).2.2.2.2.1.tail).1=true then
    ((dateL l).1,(dateL l).2.1,(dateL l).2.2.1,(dateL l).2.2.2.1,(timeL (dateL l).2.2.2.2.1.tail).1,(timeL (dateL l).2.2.2.2.1.tail).2.1,true) else (0,0,0,0,0,l,false))
  else if rightR (dateL l).1 (dateL l).2.1 (dateL l).2.2.1 (dateL l).2.2.2.1 7200=true then
   ((dateL l).1,(dateL l).2.1,(dateL l).2.2.1,(dateL l).2.2.2.1,7200,(dateL l).2.2.2.2.1,true) else (0,0,0,0,0,l,false))
 else (0,0,0,0,0,l,false)
theorem parse_good (l:List UInt8) (h:(parseL l).2.2.2.2.2.2=true) :
  rightR (parseL l).1 (parseL l).2.1 (parseL l).2.2.1 (parseL l).2.2.2.1 (parseL l).2.2.2.2.1=true∧∃ j,0 < j∧j≤l.length∧(parseL l).2.2.2.2.2.1=l.drop j:=by
 obtain ⟨j,hj,e,hp⟩:=dateL_drop l
 revert h
 unfold parseL
 by_cases hok:(dateL l).2.2.2.2.2=true
 ·have hp:=hp hok
  rw [if_pos hok]
  by_cases hc:(dateL l).2.2.2.2.1.head? = some 47
  ·rw [if_pos hc]
   by_cases hR:(timeL (dateL l).2.2.2.2.1.tail).2.2=true∧rightR (dateL l).1 (dateL l).2.1 (dateL l).2.2.1 (dateL l).2.2.2.1 (timeL (dateL l).2.2.2.2.1.tail).1=true
   ·rw [if_pos hR]
    intro _
    obtain ⟨i,hi,ei,_⟩:=time_drop (dateL l).2.2.2.2.1.tail
    refine ⟨hR.2,j+1+i,by omega,?_,?_⟩
    ·rw [List.length_tail,e,List.length_drop] at hi
     have:(dateL l).2.2.2.2.1.length≠0:=by intro h0; rw [List.eq_nil_of_length_eq_zero h0] at hc; simp at hc
     rw [e,List.length_drop] at this
     omega
    ·simp only []
     rw [ei,e,← List.drop_one,List.drop_drop,List.drop_drop]
     congr 1; omega
   ·rw [if_neg hR]; intro h; simp at h
  ·rw [if_neg hc]
   by_cases hR:rightR (dateL l).1 (dateL l).2.1 (dateL l).2.2.1 (dateL l).2.2.2.1 7200=true
   ·rw [if_pos hR]
    intro _
    exact ⟨hR,j,hp,hj,e⟩
   ·rw [if_neg hR]; intro h; simp at h
 ·rw [if_neg hok]; intro h; simp at h
theorem parse_bad (l:List UInt8) (h:(parseL l).2.2.2.2.2.2=false):parseL l=(0,0,0,0,0,l,false):=by
 revert h
 unfold parseL
 split
 ·split
  ·split
   ·intro h; simp at h
   ·intro _; rfl
  ·split
   ·intro h; simp at h
   ·intro _; rfl
 ·intro _; rfl
def headL (K A B C:Int):List UInt8:=if K=0 then 77 :: (itoaK A++46 :: (itoaK B++46 :: itoaK C)) else if K=1 then 74 :: itoaK A else itoaK A
def tailL (X:Int):List UInt8:=if X=7200 then [] else 47 :: (clockL X).1
def textL (K A B C X:Int):List UInt8×Bool:=if rightR K A B C X=true then (headL K A B C++tailL X,true) else ([],false)
end Go.Proofs.YtbnpclndiichcaaGreatDoor.Pl
end
section
set_option linter.unusedVariables false
set_option linter.unusedSimpArgs false
namespace Go.Proofs.YtbnpclndiichcaaGreatDoor.Pl
open Go
theorem sixty_no {c a b:UInt8} {r:List UInt8} (h:¬ (c=58∧isDig a=true∧isDig b=true∧a.toNat≤53)):sixtyL (c :: a :: b :: r)=(0,c :: a :: b :: r,false):=if_neg h
theorem sixty_yes {c a b:UInt8} {r:List UInt8} (h:c=58∧isDig a=true∧isDig b=true∧a.toNat≤53):sixtyL (c :: a :: b :: r)=(10 * ((a.toNat:Int) - 48)+((b.toNat:Int) - 48),r,true):=if_pos h
theorem isDig_iff (a:UInt8):isDig a=true↔48≤a.toNat∧a.toNat≤57:=by unfold isDig; simp
theorem valL_snoc (a:List UInt8) (c:UInt8):valL (a++[c])=10 * valL a+(c.toNat - 48):=by simp [valL,List.foldl_append]
theorem take_succ_at (l:List UInt8) (j:Nat) (h:j < l.length):l.take (j+1)=l.take j++[l[j]]:=(List.take_append_getElem h).symm
theorem dl_digit (l:List UInt8):∀ j (h:j < dl l),isDig (l[j]'(Nat.lt_of_lt_of_le h (dl_le l)))=true:=by
 intro j h
 have hl:=dl_le l
 have:=take_dl_dig l (j+1) (by omega)
 rw [take_succ_at l j (by omega)] at this
 exact this _ (List.mem_append_right _ (List.mem_singleton.2 rfl))
theorem dl_stop (l:List UInt8) (h:dl l < l.length):isDig l[dl l]=false:=by
 induction l with
 | nil=>simp at h
 | cons a r ih =>
  by_cases ha:isDig a=true
  ·have e:dl (a :: r)=dl r+1:=by rw [dl_cons,if_pos ha]
   have h':dl r < r.length:=by rw [e] at h; simpa using h
   have:=ih h'
   simp only [e,List.getElem_cons_succ]
   exact this
  ·have e:dl (a :: r)=0:=by rw [dl_cons,if_neg ha]
   simp only [e,List.getElem_cons_zero]
   simpa using ha
def refNum (l:List UInt8) (m hi:Nat):Int×List UInt8:=if dl l=0∨m < dl l∨hi < valL (l.take (dl l)) then (-1,l) else ((valL (l.take (dl l)):Int),l.drop (dl l))
theorem refNum_yes {l:List UInt8} {m hi:Nat} (h:0≤(refNum l m hi).1):numberL l m=((refNum l m hi).1,(refNum l m hi).2,true):=by
 unfold refNum at h ⊢
 unfold numberL
 by_cases c:dl l=0∨m < dl l∨hi < valL (l.take (dl l))
 ·rw [if_pos c] at h; simp at h
 ·rw [if_neg c,if_neg (by omega)]
theorem refNum_of {l:List UInt8} {m hi:Nat} (h:(numberL l m).2.2=true) (hv:(numberL l m).1≤(hi:Int)):refNum l m hi=((numberL l m).1,(numberL l m).2.1):=by
 unfold numberL at h hv ⊢
 unfold refNum
 by_cases c:dl l=0∨m < dl l
 ·rw [if_pos c] at h; cases h
 ·rw [if_neg c] at hv ⊢
  rw [if_neg (by simp only [] at hv; omega)]
def refDot (l:List UInt8):Int×List UInt8:=if l.head? = some 46 then refNum l.tail 1 9 else (-1,l)
def refHead (l:List UInt8):Int×Int×Int×Int×List UInt8 :=
 if l.head? = some 77 then (0,(refNum l.tail 2 12).1,(refDot (refNum l.tail 2 12).2).1,refDot (refDot (refNum l.tail 2 12).2).2)
 else if l.head? = some 74 then (1,(refNum l.tail 3 365).1,0,0,(refNum l.tail 3 365).2) else (2,(refNum l 3 365).1,0,0,(refNum l 3 365).2)
theorem dot_yes {l:List UInt8} (h:0≤(refDot l).1):cutP 46 l=(l.tail,true)∧numberL l.tail 1=((refDot l).1,(refDot l).2,true):=by
 unfold refDot at h ⊢
 unfold cutP
 by_cases c:l.head? = some 46
 ·rw [if_pos c] at h ⊢
  rw [if_pos c]
  exact ⟨rfl,refNum_yes h⟩
 ·rw [if_neg c] at h; simp at h
theorem dot_of {l:List UInt8} (h1:(cutP 46 l).2=true) (h2:(numberL (cutP 46 l).1 1).2.2=true):refDot l=((numberL (cutP 46 l).1 1).1,(numberL (cutP 46 l).1 1).2.1):=by
 unfold cutP at h1 h2 ⊢
 unfold refDot
 by_cases c:l.head? = some 46
 ·rw [if_pos c] at h2 ⊢
  rw [if_pos c]
  have hb:=numberL_bd l.tail 1
  exact refNum_of h2 (by have h3:=hb.2; rw [show ((10 ^ 1:Nat):Int)=10 from rfl] at h3; omega)
 ·rw [if_neg c] at h1; cases h1
theorem head_yes (l:List UInt8) (h:rightR (refHead l).1 (refHead l).2.1 (refHead l).2.2.1 (refHead l).2.2.2.1 7200=true) :
  dateL l=((refHead l).1,(refHead l).2.1,(refHead l).2.2.1,(refHead l).2.2.2.1,(refHead l).2.2.2.2,true):=by
 have hr:=(right_iff _ _ _ _ _).1 h
 revert hr
 unfold refHead dateL
 by_cases h77:l.head? = some 77
 ·rw [if_pos h77,if_pos h77]
  simp only []
  intro hr
  have y1:=refNum_yes (l:=l.tail) (m:=2) (hi:=12) (by omega)
  have y2:=dot_yes (l:=(refNum l.tail 2 12).2) (by omega)
  have y3:=dot_yes (l:=(refDot (refNum l.tail 2 12).2).2) (by omega)
  unfold weekL
  rw [y1]
  simp only []
  rw [y2.1]
  simp only []
  rw [y2.2]
  simp only []
  rw [y3.1]
  simp only []
  rw [y3.2]
  rfl
 ·rw [if_neg h77,if_neg h77]
  by_cases h74:l.head? = some 74
  ·rw [if_pos h74,if_pos h74]
   simp only []
   intro hr
   rw [refNum_yes (l:=l.tail) (m:=3) (hi:=365) (by omega)]
  ·rw [if_neg h74,if_neg h74]
   simp only []
   intro hr
   rw [refNum_yes (l:=l) (m:=3) (hi:=365) (by omega)]
theorem head_of (l:List UInt8) (ho:(dateL l).2.2.2.2.2=true) (h:rightR (dateL l).1 (dateL l).2.1 (dateL l).2.2.1 (dateL l).2.2.2.1 7200=true) :
  refHead l=((dateL l).1,(dateL l).2.1,(dateL l).2.2.1,(dateL l).2.2.2.1,(dateL l).2.2.2.2.1):=by
 have hr:=(right_iff _ _ _ _ _).1 h
 revert hr ho
 unfold refHead dateL
 by_cases h77:l.head? = some 77
 ·rw [if_pos h77,if_pos h77]
  simp only []
  unfold weekL
  simp only [Bool.and_eq_true]
  intro ho hr
  have z1:=refNum_of (l:=l.tail) (m:=2) (hi:=12) ho.1.1.1.1 (by omega)
  rw [z1]
  simp only []
  have z2:=dot_of ho.1.2 ho.1.1.1.2
  rw [z2]
  simp only []
  have z3:=dot_of ho.2 ho.1.1.2
  rw [z3]
 ·rw [if_neg h77,if_neg h77]
  by_cases h74:l.head? = some 74
  ·rw [if_pos h74,if_pos h74]
   simp only []
   intro ho hr
   rw [refNum_of (l:=l.tail) (m:=3) (hi:=365) ho (by omega)]
  ·rw [if_neg h74,if_neg h74]
   simp only []
   intro ho hr
   rw [refNum_of (l:=l) (m:=3) (hi:=365) ho (by omega)]
theorem right_sec (K A B C X Y:Int) (hX:-604799≤X∧X≤604799) (hY:-604799≤Y∧Y≤604799):rightR K A B C X=rightR K A B C Y:=by
 rw [Bool.eq_iff_iff,right_iff,right_iff]
 constructor
 ·intro h; exact ⟨hY,h.2⟩
 ·intro h; exact ⟨hX,h.2⟩
end Go.Proofs.YtbnpclndiichcaaGreatDoor.Pl
end
section
set_option linter.unusedVariables false
set_option linter.unusedSimpArgs false
namespace Go.Proofs.YtbnpclndiichcaaGreatDoor.Pl
open Go Go.Proofs.YtbnpclndiichcaaGreatDoor.Eng
theorem ifT {c:Prop} [Decidable c] {a b:Prop} (h:c) (ha:a):if c then a else b:=by rw [if_pos h]; exact ha
theorem ifF {c:Prop} [Decidable c] {a b:Prop} (h:¬ c) (hb:b):if c then a else b:=by rw [if_neg h]; exact hb
theorem ifC {c:Prop} [Decidable c] {a b:Prop} (h1:c→a) (h2:¬ c→b):if c then a else b:=by
 by_cases h:c
 ·exact ifT h (h1 h)
 ·exact ifF h (h2 h)
theorem w64_in {n:Int} (h0:-9223372036854775808≤n) (h1:n≤9223372036854775807):w64 n=n:=by
 simp only [w64,IntKind.wrap,IntKind.bits,IntKind.signed]
 try simp
 try omega
theorem bAt_S (l:List UInt8) (i:Nat):Eng.bAt (S l) i=((l.getD i 0).toNat:Int):=rfl
theorem bAt0 (c:UInt8) (l:List UInt8):Eng.bAt (S (c :: l)) 0=(c.toNat:Int):=rfl
theorem bAt1 (a c:UInt8) (l:List UInt8):Eng.bAt (S (a :: c :: l)) 1=(c.toNat:Int):=rfl
theorem bAt2 (a b c:UInt8) (l:List UInt8):Eng.bAt (S (a :: b :: c :: l)) 2=(c.toNat:Int):=rfl
theorem lp_ind {α:Type} {F:(α→Prop)→α→Prop} (μ:α→Nat) (I:α→Prop) (h:∀ x,I x→∀ k:α→Prop,(∀ y,I y→μ y < μ x→k y)→F k x) {x:α} (hx:I x):Eng.lp F x:=by
 have key:∀ n x,I x→μ x < n→itrT F n x:=by
  intro n
  induction n with
  | zero=>intro x _ hn; omega
  | succ n ih=>intro x hx hn; exact h x hx _ fun y hy hlt=>ih y hy (by omega)
 exact ⟨μ x+1,key _ _ hx (Nat.lt_succ_self _)⟩
theorem lp_nat {α:Type} {F:(α→Prop)→α→Prop} (st:Nat→α) (N:Nat) (h:∀ n,n≤N→∀ k:α→Prop,(n < N→k (st (n+1)))→F k (st n)):Eng.lp F (st 0):=by
 have key:∀ d n,n+d=N→itrT F (d+1) (st n):=by
  intro d
  induction d with
  | zero=>intro n hn; exact h n (by omega) _ fun hlt=>by omega
  | succ d ih=>intro n hn; exact h n (by omega) _ fun hlt=>ih (n+1) (by omega)
 exact ⟨N+1,key N 0 (by omega)⟩
theorem lp_at {α:Type} {F:(α→Prop)→α→Prop} {x:α} (st:Nat→α) (N:Nat) (h0:x=st 0) (h:∀ n,n≤N→∀ k:α→Prop,(n < N→k (st (n+1)))→F k (st n)):Eng.lp F x:=by
 rw [h0]; exact lp_nat st N h
def nl (q:UInt8→Bool) (l:List UInt8):Nat:=(l.takeWhile fun c=>!q c).length
theorem nl_le (q:UInt8→Bool) (l:List UInt8):nl q l≤l.length:=by unfold nl; exact (List.takeWhile_sublist _).length_le
theorem nl_cons (q:UInt8→Bool) (c:UInt8) (l:List UInt8):nl q (c :: l)=if q c=true then 0 else nl q l+1:=by
 unfold nl; rw [List.takeWhile_cons]; cases q c <;> simp
theorem nl_any (q:UInt8→Bool) (l:List UInt8):l.any q=decide (nl q l < l.length):=by
 induction l with
 | nil=>rfl
 | cons c l ih =>
  rw [List.any_cons,nl_cons,ih]
  cases q c <;> simp
theorem nl_of (q:UInt8→Bool):∀ (l:List UInt8) (k:Nat),k≤l.length→(∀ c∈l.take k,q c=false)→(∀ h:k < l.length,q l[k]=true)→nl q l=k
 | [],k,hk,_,_=>by simp at hk; subst hk; rfl
 | c :: l,0,_,_,h=>by
  have h0:q c=true:=h (by simp)
  rw [nl_cons,if_pos h0]
 | c :: l,k+1,hk,h1,h2=>by
  have hc:=h1 c (by simp)
  rw [nl_cons,if_neg (by rw [hc]; simp),nl_of q l k (by simpa using hk) (fun d hd=>h1 d (by rw [List.take_succ_cons]; exact .tail _ hd)) (fun h=>by have:=h2 (by simpa using h); simpa using this)]
theorem nl_spec (q:UInt8→Bool):∀ (l:List UInt8) (j:Nat) (h:j < l.length),(j < nl q l→q l[j]=false)∧(j=nl q l→q l[j]=true)
 | [],j,h=>by simp at h
 | c :: l,0,_=>by
  rw [nl_cons]
  cases hq:q c
  ·exact ⟨fun _=>hq,fun h=>by simp at h⟩
  ·exact ⟨fun h=>by simp at h,fun _=>hq⟩
 | c :: l,j+1,h=>by
  have ih:=nl_spec q l j (by simpa using h)
  rw [nl_cons]
  cases hq:q c
  ·simp only [Bool.false_eq_true,if_false,List.getElem_cons_succ]
   exact ⟨fun h=>ih.1 (by omega),fun h=>ih.2 (by omega)⟩
  ·exact ⟨fun h=>by simp at h,fun h=>by simp at h⟩
theorem indexByte_nl (l:List UInt8) (c:UInt8):Lib.indexByte l c=if nl (· == c) l < l.length then (nl (· == c) l:Int) else -1:=by
 induction l with
 | nil=>rfl
 | cons b l ih =>
  rw [Lib.indexByte,nl_cons,ih]
  cases hb:(b == c)
  ·simp only [Bool.false_eq_true,if_false,List.length_cons]
   by_cases h:nl (· == c) l < l.length
   ·rw [if_pos h,if_neg (by simp),if_pos (by omega)]; omega
   ·rw [if_neg h,if_pos (by simp),if_neg (by omega)]
  ·simp
theorem decode_lo (l:List UInt8) (pos:Nat) (h:pos < l.length) (ha:l[pos].toNat < 128):Utf8.decode (S l) pos=(l[pos].toNat,1):=decode_ascii (S l) pos (by rw [S_size]; exact h) ha
theorem decode_hi (l:List UInt8) (pos:Nat) (h:pos < l.length) (ha:128≤l[pos].toNat):128≤(Utf8.decode (S l) pos).1∧1≤(Utf8.decode (S l) pos).2:=decode_high (S l) pos (by rw [S_size]; exact h) ha
end Go.Proofs.YtbnpclndiichcaaGreatDoor.Pl
end
section
set_option linter.unusedVariables false
set_option linter.unusedSimpArgs false
namespace Go.Proofs.YtbnpclndiichcaaGreatDoor.Pl
open Go
def splitL (c:UInt8) (l:List UInt8):List UInt8×List UInt8×Bool:=if nl (· == c) l < l.length then (l.take (nl (· == c) l),l.drop (nl (· == c) l+1),true) else (l,[],false)
def badC (c:UInt8):Bool:=!((97≤c.toNat && c.toNat≤122) || (65≤c.toNat && c.toNat≤90) || (48≤c.toNat && c.toNat≤57) || c.toNat == 43 || c.toNat == 45)
def letC (c:UInt8):Bool:=(97≤c.toNat && c.toNat≤122) || (65≤c.toNat && c.toNat≤90)
def abbrL (l:List UInt8):Bool:=decide (3≤l.length∧l.length≤16) && !l.any badC
theorem sixty_bad (l:List UInt8) (h:(sixtyL l).2.2=false):(sixtyL l).1=0∧(sixtyL l).2.1=l:=by
 match l,h with
 | [],_=>exact ⟨rfl,rfl⟩
 | [_],_=>exact ⟨rfl,rfl⟩
 | [_,_],_=>exact ⟨rfl,rfl⟩
 | c :: a :: b :: r,h =>
  by_cases hh:c=58∧isDig a=true∧isDig b=true∧a.toNat≤53
  ·rw [sixty_yes hh] at h; cases h
  ·rw [sixty_no hh]; exact ⟨rfl,rfl⟩
structure Ru where
 k:Int
 a:Int
 b:Int
 c:Int
 x:Int
def Ru.z:Ru:=⟨0,0,0,0,0⟩
def Ru.ok (r:Ru):Bool:=rightR r.k r.a r.b r.c r.x
def Ru.txt (r:Ru):List UInt8:=(textL r.k r.a r.b r.c r.x).1
def Ru.at (r:Ru) (y:Int):Int:=ruleDay r.k r.a r.b r.c y * 86400+r.x
structure Ft where
 so:Int
 sd:Bool
 sa:List UInt8
 wo:Int
 wd:Bool
 wa:List UInt8
 has:Bool
 fr:Ru
 to:Ru
def Ft.z:Ft:=⟨0,false,[],0,false,[],false,.z,.z⟩
def kindR (o:Int) (d:Bool) (l:List UInt8) (w:Bool):Bool:=abbrL l && (d == w) && decide (-89999≤o∧o≤89999)
def Ft.bare (f:Ft):Prop:=f.wo=0∧f.wd=false∧f.wa=[]∧(f.fr.k=0∧f.fr.a=0∧f.fr.b=0∧f.fr.c=0∧f.fr.x=0)∧(f.to.k=0∧f.to.a=0∧f.to.b=0∧f.to.c=0∧f.to.x=0)
instance (f:Ft):Decidable f.bare:=inferInstanceAs (Decidable (_∧_))
def Ft.ok (f:Ft):Bool:=kindR f.so f.sd f.sa false && (if f.has=true then kindR f.wo f.wd f.wa true && f.fr.ok && f.to.ok else decide f.bare)
def nameT (l:List UInt8):List UInt8:=if l.any (fun c=>!letC c)=true then 60 :: (l++[62]) else l
def Ft.txt (f:Ft):List UInt8:=nameT f.sa++((clockL (-f.so)).1++(if f.has=true then nameT f.wa++((if f.wo - f.so≠3600 then (clockL (-f.wo)).1 else [])++44 :: (f.fr.txt++44 :: f.to.txt)) else []))
def Ft.text (f:Ft):List UInt8×Bool:=if f.ok=true then (f.txt,true) else ([],false)
def nameP (l:List UInt8):List UInt8×Bool×List UInt8 :=
 if l.head? = some 60 then ((splitL 62 l.tail).1,(splitL 62 l.tail).2.2 && abbrL (splitL 62 l.tail).1,(splitL 62 l.tail).2.1)
 else (l.take (nl (fun c=>!letC c) l),abbrL (l.take (nl (fun c=>!letC c) l)),l.drop (nl (fun c=>!letC c) l))
structure Us where
 ok:Bool
 rest:List UInt8
 o:Int
 a:List UInt8
def usualP (l:List UInt8):Us:=⟨(nameP l).2.1 && (timeL (nameP l).2.2).2.2,(timeL (nameP l).2.2).2.1,-(timeL (nameP l).2.2).1,(nameP l).1⟩
def summerP (so:Int) (l:List UInt8):Us :=
 if (timeL (nameP l).2.2).2.2=true then ⟨(nameP l).2.1,(timeL (nameP l).2.2).2.1,-(timeL (nameP l).2.2).1,(nameP l).1⟩ else ⟨(nameP l).2.1,(nameP l).2.2,so+3600,(nameP l).1⟩
structure Rp where
 ok:Bool
 rest:List UInt8
 r:Ru
def ruleP (l:List UInt8):Rp:=⟨(parseL (cutP 44 l).1).2.2.2.2.2.2 && (cutP 44 l).2,(parseL (cutP 44 l).1).2.2.2.2.2.1,⟨(parseL (cutP 44 l).1).1,(parseL (cutP 44 l).1).2.1,(parseL (cutP 44 l).1).2.2.1,(parseL (cutP 44 l).1).2.2.2.1,(parseL (cutP 44 l).1).2.2.2.2.1⟩⟩
def Ft.chk (f:Ft):Ft×Bool:=if f.ok=true then (f,true) else (.z,false)
def Ft.parse (l:List UInt8):Ft×Bool :=
 if (usualP l).ok=true then
  (if (usualP l).rest=[] then Ft.chk ⟨(usualP l).o,false,(usualP l).a,0,false,[],false,.z,.z⟩
  else if (summerP (usualP l).o (usualP l).rest).ok=true then
   (if (ruleP (summerP (usualP l).o (usualP l).rest).rest).ok=true then
    (if (ruleP (ruleP (summerP (usualP l).o (usualP l).rest).rest).rest).ok=true then
     (if (ruleP (ruleP (summerP (usualP l).o (usualP l).rest).rest).rest).rest=[] then
      Ft.chk ⟨(usualP l).o,false,(usualP l).a,(summerP (usualP l).o (usualP l).rest).o,true,(summerP (usualP l).o (usualP l).rest).a,true,(ruleP (summerP (usualP l).o (usualP l).rest).rest).r,(ruleP (ruleP (summerP (usualP l).o (usualP l).rest).rest).rest).r⟩
     else (.z,false)) else (.z,false)) else (.z,false)) else (.z,false))
 else (.z,false)
def Ft.spans (f:Ft) (y:Int):Prop:=f.has=true∧f.ok=true∧1≤y∧y≤9999
instance (f:Ft) (y:Int):Decidable (f.spans y):=inferInstanceAs (Decidable (_∧_))
def Ft.from' (f:Ft) (y:Int):Int:=f.fr.at y - f.so
def Ft.to' (f:Ft) (y:Int):Int:=f.to.at y - f.wo
def inDays (n:Int):Prop:=-719162≤n / 86400∧n / 86400≤2932896
instance (n:Int):Decidable (inDays n):=inferInstanceAs (Decidable (_∧_))
def Ft.sum (f:Ft) (p:Int):Prop:=inDays (p+f.so)∧f.spans (yearP ((p+f.so) / 86400)) ∧
 ((f.from' (yearP ((p+f.so) / 86400))≤p∧p < f.to' (yearP ((p+f.so) / 86400)))∨(f.to' (yearP ((p+f.so) / 86400))≤f.from' (yearP ((p+f.so) / 86400))∧(f.from' (yearP ((p+f.so) / 86400))≤p∨p < f.to' (yearP ((p+f.so) / 86400)))))
instance (f:Ft) (p:Int):Decidable (f.sum p):=inferInstanceAs (Decidable (_∧_))
end Go.Proofs.YtbnpclndiichcaaGreatDoor.Pl
end
section
set_option linter.unusedVariables false
set_option linter.unusedSimpArgs false
namespace Go.Proofs.YtbnpclndiichcaaGreatDoor.Pl
open Go Go.Proofs.YtbnpclndiichcaaGreatDoor.Eng
def fl {α:Type} (q:α→Bool):List α→Nat
 | []=>0
 | x :: l=>if q x=true then 0 else fl q l+1
theorem fl_le {α:Type} (q:α→Bool):∀ l:List α,fl q l≤l.length
 | []=>Nat.le_refl _
 | x :: l=>by
  rw [fl]
  split
  ·omega
  ·have:=fl_le q l; simp; omega
theorem fl_spec {α:Type} (q:α→Bool):∀ (l:List α) (j:Nat) (h:j < l.length),(j < fl q l→q l[j]=false)∧(j=fl q l→q l[j]=true)
 | [],j,h=>by simp at h
 | x :: l,0,_=>by
  rw [fl]
  cases hq:q x
  ·exact ⟨fun _=>hq,fun h=>by simp at h⟩
  ·exact ⟨fun h=>by simp at h,fun _=>hq⟩
 | x :: l,j+1,h=>by
  have ih:=fl_spec q l j (by simpa using h)
  rw [fl]
  cases hq:q x
  ·simp only [Bool.false_eq_true,if_false,List.getElem_cons_succ]
   exact ⟨fun h=>ih.1 (by omega),fun h=>ih.2 (by omega)⟩
  ·exact ⟨fun h=>by simp at h,fun h=>by simp at h⟩
theorem fl_of {α:Type} (q:α→Bool) (l:List α) (k:Nat) (hk:k≤l.length) (h1:∀ i (h:i < l.length),i < k→q l[i]=false) (h2:∀ h:k < l.length,q l[k]=true):fl q l=k:=by
 have hle:=fl_le q l
 rcases Nat.lt_trichotomy (fl q l) k with h | h | h
 ·have h3:fl q l < l.length:=by omega
  have:=h1 _ h3 h
  rw [(fl_spec q l _ h3).2 rfl] at this
  cases this
 ·exact h
 ·have h3:k < l.length:=by omega
  have:=(fl_spec q l k h3).1 h
  rw [h2 h3] at this
  cases this
abbrev Rec:=Int×Int
def lastExp (l:List Rec):Bool:=(decide (l.length=1) && (l.getD 0 (0,0)).2 == 0) || (decide (1 < l.length) && (l.getD (l.length - 1) (0,0)).2 == (l.getD (l.length - 2) (0,0)).2)
def leapsR (l:List Rec):List Rec:=if lastExp l=true then l.take (l.length - 1) else l
def sumR (l:List Rec) (at':Int):Int:=match ((leapsR l).take (fl (fun c:Rec=>decide (c.1 > at')) (leapsR l))).getLast? with
 | none=>0
 | some c=>c.2
def recOk:Nat→Rec→List Rec→Bool
 | _,_,[]=>true
 | k,b,c :: r =>
  let e:=decide (c.2 - b.2=0) && r.isEmpty
  decide (k≤200) && decide (0≤c.1) && (e || decide (c.2 - b.2=1) || decide (c.2 - b.2=-1)) && (decide (k=0) || decide (c.1 - b.1≥if e=true then 0 else 2419199)) && recOk (k+1) c r
def recRight (l:List Rec):Bool:=recOk 0 (-2419199,0) l
abbrev Ty:=Int×Bool×List UInt8
structure Zn where
 ty:List Ty
 tr:List Rec
 lp:List Rec
 ft:List UInt8
 v:Int
def eTy (t:Ty):V:=.agg [.c (.int .i64 t.1),.c (.bool t.2.1),.c (.string (S t.2.2))]
def eRec (c:Rec):V:=.agg [.c (.int .i64 c.1),.c (.int .i64 c.2)]
def tupZ (z:Zn):List V×List V×List V×ByteArray×Int×Unit:=(z.ty.map eTy,z.tr.map eRec,z.lp.map eRec,S z.ft,z.v,())
def poolN:List (List UInt8)→List (List UInt8)→Nat
 | _,[]=>0
 | had,s :: r=>if had.contains s=true then poolN had r else s.length+1+poolN (s :: had) r
def nin (n a b:Int):Bool:=decide (a≤n∧n≤b)
def countOk (z:Zn):Bool:=(z.ty.map (·.2.2)).all abbrL && decide (poolN [] (z.ty.map (·.2.2))≤256) && nin z.lp.length 0 201 && nin z.tr.length 0 2000 && nin z.ty.length 1 64 && nin (poolN [] (z.ty.map (·.2.2))) 1 256 && nin z.v 1 4
def oddR (x:Int):Bool:=decide (x < 0) || decide (x > 86400)
def endsOk (z:Zn):Bool:=z.ft.isEmpty || ((Ft.parse z.ft).2 && decide (z.v≥if (oddR (Ft.parse z.ft).1.fr.x || oddR (Ft.parse z.ft).1.to.x)=true then 3 else 2))
def trOk (n:Nat):Option Int→List Rec→Bool
 | _,[]=>true
 | b,c :: r=>decide (0≤c.2∧c.2 < n) && (match b with | none=>true | some a=>decide (c.1 > a)) && trOk n (some c.1) r
def zoneRight (z:Zn):Bool:=countOk z && recRight z.lp && (!lastExp z.lp || decide (z.v≥4)) && z.ty.all (fun t=>decide (-89999≤t.1∧t.1≤93599)) && trOk z.ty.length none z.tr && endsOk z
def indexN (z:Zn) (at':Int):Nat:=fl (fun c:Rec=>decide (c.1 > at')) z.tr
def posixR (z:Zn) (at':Int):Int:=w64 (at' - sumR z.lp at')
def Ft.look (f:Ft) (p:Int):Ty:=if f.sum p then (f.wo,f.wd,f.wa) else (f.so,f.sd,f.sa)
def lookZ (z:Zn) (at':Int):Ty :=
 if z.ft≠[]∧indexN z at'=z.tr.length then (Ft.parse z.ft).1.look (posixR z at')
 else match (z.tr.take (indexN z at')).getLast? with
  | none=>z.ty.headD (0,false,[])
  | some c=>z.ty.getD c.2.toNat (0,false,[])
end Go.Proofs.YtbnpclndiichcaaGreatDoor.Pl
end
section
set_option linter.unusedVariables false
set_option linter.unusedSimpArgs false
namespace Go.Proofs.YtbnpclndiichcaaGreatDoor.Pl
open Go Go.Proofs.YtbnpclndiichcaaGreatDoor.Eng
def be:Nat→Int→List UInt8
 | 0,_=>[]
 | k+1,n=>UInt8.ofNat ((n / (256:Int) ^ k) % 256).toNat :: be k n
def ub:List UInt8→Int
 | []=>0
 | c :: r=>(c.toNat:Int) * (256:Int) ^ r.length+ub r
theorem be_len:∀ (k:Nat) (n:Int),(be k n).length=k
 | 0,_=>rfl
 | k+1,n=>by rw [be,List.length_cons,be_len k n]
theorem pow_pos (k:Nat):0 < (256:Int) ^ k:=Int.pow_pos (by decide)
theorem ub_rng:∀ l:List UInt8,0≤ub l∧ub l < (256:Int) ^ l.length
 | []=>by simp [ub]
 | c :: r=>by
  have ih:=ub_rng r
  have hc:c.toNat < 256:=c.toNat_lt
  have hm:=pow_pos r.length
  rw [ub,List.length_cons,Int.pow_succ]
  generalize (256:Int) ^ r.length=m at *
  have h1:0≤(c.toNat:Int) * m:=Int.mul_nonneg (by omega) (by omega)
  have h2:(c.toNat:Int) * m≤255 * m:=Int.mul_le_mul_of_nonneg_right (by omega) (by omega)
  refine ⟨by omega,?_⟩
  have:m * 256=255 * m+m:=by omega
  omega
theorem split_mod (x m:Int) (hm:0 < m):x % (m * 256)=(x / m % 256) * m+x % m:=by
 have h1:=Int.emod_add_mul_ediv x m
 have h2:=Int.emod_add_mul_ediv (x / m) 256
 have h3:=Int.emod_nonneg x (show m≠0 by omega)
 have h4:=Int.emod_lt_of_pos x hm
 have h5:=Int.emod_nonneg (x / m) (show (256:Int)≠0 by decide)
 have h6:=Int.emod_lt_of_pos (x / m) (show (0:Int) < 256 by decide)
 generalize hq:x / m / 256=q at *
 generalize hc:x / m % 256=c at *
 generalize hu:x % m=u at *
 have e:x=(c * m+u)+(m * 256) * q:=by
  rw [← h1,← h2]
  rw [Int.mul_add,Int.mul_comm m c,← Int.mul_assoc]
  omega
 have h7:0≤c * m:=Int.mul_nonneg h5 (by omega)
 have h8:c * m≤255 * m:=Int.mul_le_mul_of_nonneg_right (by omega) (by omega)
 rw [e,Int.add_mul_emod_self_left]
 exact Int.emod_eq_of_lt (by omega) (by omega)
theorem ub_be:∀ (k:Nat) (n:Int),ub (be k n)=n % (256:Int) ^ k
 | 0,n=>by simp [be,ub]
 | k+1,n=>by
  rw [be,ub,be_len,ub_be k n,Int.pow_succ,split_mod n _ (pow_pos k)]
  have h5:=Int.emod_nonneg (n / (256:Int) ^ k) (show (256:Int)≠0 by decide)
  have h6:=Int.emod_lt_of_pos (n / (256:Int) ^ k) (show (0:Int) < 256 by decide)
  generalize n / (256:Int) ^ k % 256=c at *
  have:(UInt8.ofNat c.toNat).toNat=c.toNat:=by
   rw [UInt8.toNat_ofNat']; exact Nat.mod_eq_of_lt (by omega)
  rw [this,Int.toNat_of_nonneg h5]
theorem be_ub:∀ (l:List UInt8) (x:Int),x % (256:Int) ^ l.length=ub l→be l.length x=l
 | [],x,_=>rfl
 | c :: r,x,h=>by
  have hu:=ub_rng r
  have hc:c.toNat < 256:=c.toNat_lt
  rw [ub,List.length_cons,Int.pow_succ,split_mod x _ (pow_pos r.length)] at h
  have hm:=pow_pos r.length
  have h3:=Int.emod_nonneg x (show (256:Int) ^ r.length≠0 by omega)
  have h4:=Int.emod_lt_of_pos x hm
  have h5:=Int.emod_nonneg (x / (256:Int) ^ r.length) (show (256:Int)≠0 by decide)
  have h6:=Int.emod_lt_of_pos (x / (256:Int) ^ r.length) (show (0:Int) < 256 by decide)
  have ih:=be_ub r x
  rw [List.length_cons,be]
  generalize (256:Int) ^ r.length=m at *
  have hd:x / m % 256=(c.toNat:Int)∧x % m=ub r:=by
   rcases Int.lt_trichotomy (x / m % 256) (c.toNat:Int) with q | q | q
   ·have:=Int.mul_le_mul_of_nonneg_right (show x / m % 256+1≤(c.toNat:Int) by omega) (show 0≤m by omega)
    rw [Int.add_mul] at this; omega
   ·rw [q] at h; exact ⟨q,by omega⟩
   ·have:=Int.mul_le_mul_of_nonneg_right (show (c.toNat:Int)+1≤x / m % 256 by omega) (show 0≤m by omega)
    rw [Int.add_mul] at this; omega
  rw [hd.1,ih hd.2]
  simp
def fits (k:Nat) (n:Int):Bool:=if k=1 then decide (0≤n∧n < 256) else decide (-((256:Int) ^ k / 2)≤n∧n < (256:Int) ^ k / 2)
def numB (l:List UInt8):Int:=if l.length=1 then ub l else if (256:Int) ^ l.length≤2 * ub l then ub l - (256:Int) ^ l.length else ub l
theorem num_be {k:Nat} (hk:k=1∨k=4∨k=8) {n:Int} (h:fits k n=true):numB (be k n)=n:=by
 unfold numB
 rw [be_len,ub_be]
 unfold fits at h
 rcases hk with rfl | rfl | rfl
 ·rw [if_pos rfl] at h ⊢
  simp only [decide_eq_true_eq] at h
  rw [Int.emod_eq_of_lt (by omega) (by simp; omega)]
 ·rw [if_neg (by decide)] at h ⊢
  simp only [decide_eq_true_eq,show ((256:Int) ^ 4)=4294967296 by decide] at h ⊢
  split <;> omega
 ·rw [if_neg (by decide)] at h ⊢
  simp only [decide_eq_true_eq,show ((256:Int) ^ 8)=18446744073709551616 by decide] at h ⊢
  split <;> omega
theorem num_fits {l:List UInt8} (hk:l.length=1∨l.length=4∨l.length=8):fits l.length (numB l)=true:=by
 have hu:=ub_rng l
 unfold fits numB
 generalize ub l=u at *
 rcases hk with e | e | e
 ·rw [e] at hu ⊢
  rw [if_pos rfl,if_pos rfl,decide_eq_true_eq]; simp at hu; omega
 ·rw [e] at hu ⊢
  rw [if_neg (by decide),if_neg (by decide),decide_eq_true_eq]
  simp only [show ((256:Int) ^ 4)=4294967296 by decide] at hu ⊢
  split <;> omega
 ·rw [e] at hu ⊢
  rw [if_neg (by decide),if_neg (by decide),decide_eq_true_eq]
  simp only [show ((256:Int) ^ 8)=18446744073709551616 by decide] at hu ⊢
  split <;> omega
theorem be_num {l:List UInt8} (hk:l.length=1∨l.length=4∨l.length=8):be l.length (numB l)=l:=by
 refine be_ub l _ ?_
 have hu:=ub_rng l
 unfold numB
 split
 ·exact Int.emod_eq_of_lt hu.1 hu.2
 ·split
  ·rw [← Int.add_emod_right,show ub l - (256:Int) ^ l.length+(256:Int) ^ l.length=ub l by omega]
   exact Int.emod_eq_of_lt hu.1 hu.2
  ·exact Int.emod_eq_of_lt hu.1 hu.2
end Go.Proofs.YtbnpclndiichcaaGreatDoor.Pl
end
section
set_option linter.unusedVariables false
set_option linter.unusedSimpArgs false
namespace Go.Proofs.YtbnpclndiichcaaGreatDoor.Pl
open Go Go.Proofs.YtbnpclndiichcaaGreatDoor.Eng
abbrev W32:=BitVec 32
theorem wu32_in {n:Int} (h0:0≤n) (h1:n≤4294967295):wu32 n=n:=by
 simp only [wu32,IntKind.wrap,IntKind.bits,IntKind.signed]
 try simp
 try omega
theorem wu8_in {n:Int} (h0:0≤n) (h1:n≤255):wu8 n=n:=by
 simp only [wu8,IntKind.wrap,IntKind.bits,IntKind.signed]
 try simp
 try omega
theorem wu64_in {n:Int} (h0:0≤n) (h1:n≤18446744073709551615):wu64 n=n:=by
 simp only [wu64,IntKind.wrap,IntKind.bits,IntKind.signed]
 try simp
 try omega
def rotl (x:W32) (k:Nat):W32:=x <<< k ||| x >>> (32 - k)
def sched:Nat→List W32→List W32
 | 0,l=>l
 | n+1,l=>sched n (l++[rotl (l.getD (l.length - 3) 0 ^^^ l.getD (l.length - 8) 0 ^^^ l.getD (l.length - 14) 0 ^^^ l.getD (l.length - 16) 0) 1])
def next (l:List W32):List W32:=l++[rotl (l.getD (l.length - 3) 0 ^^^ l.getD (l.length - 8) 0 ^^^ l.getD (l.length - 14) 0 ^^^ l.getD (l.length - 16) 0) 1]
def word (b:List UInt8) (i:Nat):W32:=b.foldl (fun w c=>w <<< 8 ||| BitVec.ofNat 32 c.toNat) 0
def wordAt (b:List UInt8) (i:Nat):W32:=word ((b.drop (4 * i)).take 4) 0
def first (b:List UInt8) (n:Nat):List W32:=(List.range n).map (wordAt b)
structure St5 where
 a:W32
 b:W32
 c:W32
 d:W32
 e:W32
def s0:St5:=⟨1732584193#32,4023233417#32,2562383102#32,271733878#32,3285377520#32⟩
def St5.at (s:St5) (i:Nat):W32:=match i with | 0=>s.a | 1=>s.b | 2=>s.c | 3=>s.d | _=>s.e
end Go.Proofs.YtbnpclndiichcaaGreatDoor.Pl
end
section
set_option linter.unusedVariables false
set_option linter.unusedSimpArgs false
namespace Go.Proofs.YtbnpclndiichcaaGreatDoor.Pl
open Go Go.Proofs.YtbnpclndiichcaaGreatDoor.Eng
def blankB (c:UInt8):Bool:=c == 32 || c == 9
def wd:List UInt8→List UInt8→List (List UInt8)
 | cur,[]=>if cur=[] then [] else [cur]
 | cur,c :: r=>if blankB c=true then (if cur=[] then wd [] r else cur :: wd [] r) else wd (cur++[c]) r
def numL (l:List UInt8):Int×Bool:=if l≠[]∧l.all isDig=true∧valL l≤9223372036854775807 then ((valL l:Int),true) else (0,false)
def two (l:List UInt8):Bool:=(numL l).2 && decide (l.length≤2)
abbrev LR:=Int×Int×Bool
structure Tb where
 ls:List LR
 has:Bool
 ex:Int
deriving DecidableEq
def endD (n:Int):Bool:=decide (-719162≤n∧n≤2932896) && (dayP n == dim (yearP n) (monP n))
def wrongL (k:Nat) (l:LR) (ahead:Int):Int :=
 if 200≤k then 8 else if l.1 < 730∨2932896≤l.1 then 9 else if endD l.1=false then 5 else if l.2.1≠1∧l.2.1≠-1 then 6 else if l.1≤ahead then 4 else 0
def checkG:Nat→Int→List LR→Nat×Int×Int
 | k,ahead,[]=>(k,0,ahead)
 | k,ahead,l :: r=>if wrongL k l ahead≠0 then (k,wrongL k l ahead,ahead) else checkG (k+1) l.1 r
def expB (has:Bool) (ex ahead:Int):Int :=
 if has=true then (if ex < (if 63072000 > (ahead+1) * 86400 then 63072000 else (ahead+1) * 86400)∨253402300799 < ex then 9 else 0) else if ex≠0 then 9 else 0
def checkT (t:Tb):Nat×Int:=if (checkG 0 729 t.ls).2.1≠0 then ((checkG 0 729 t.ls).1,(checkG 0 729 t.ls).2.1) else (t.ls.length,expB t.has t.ex (checkG 0 729 t.ls).2.2)
def rightT (t:Tb):Bool:=(checkT t).2 == 0
structure Row where
 kind:Int
 y:Int
 m:Int
 d:Int
 sec:Int
 sign:List UInt8
 roll:Bool
structure Src where
 ls:List LR
 at':Int
 til:Int
def B8 (l:List UInt8):List V:=l.map fun b=>.c (.int .u8 b.toNat)
theorem B8_len (l:List UInt8):(B8 l).length=l.length:=by simp [B8]
theorem bytesV_S (l:List UInt8):Eng.bytesV (S l)=B8 l:=by simp [Eng.bytesV,B8]
theorem asB8 {l:List UInt8} {i:Nat} (h:i < l.length) {F:Prop} {K:Int→Prop} (hk:K (l[i].toNat:Int)):Eng.asInt .u8 (getC (B8 l) i 0) F K:=by
 have:getC (B8 l) i 0=some (.c (.int .u8 (l[i].toNat:Int))):=by simp [getC,B8,V.cells,h]
 rw [this]; simpa [Eng.asInt] using hk
theorem B8_all (l:List UInt8):Eng.allU8 (B8 l)=true:=by
 simp [Eng.allU8,B8,Eng.isU8]
theorem B8_pack (l:List UInt8):Eng.packB (B8 l)=S l:=by
 have:(l.map fun b=>V.c (.int .u8 (b.toNat:Int))).map Eng.byteOf=l:=by
  rw [List.map_map]
  conv=>rhs; rw [← List.map_id l]
  refine List.map_congr_left fun b _=>?_
  simp [Eng.byteOf]
 unfold Eng.packB B8
 rw [this]
theorem dneg {p:Prop} [Decidable p] (h:¬ p):¬ (decide p=true):=by simpa using h
end Go.Proofs.YtbnpclndiichcaaGreatDoor.Pl
end
section
set_option linter.unusedVariables false
set_option linter.unusedSimpArgs false
namespace Go.Proofs.YtbnpclndiichcaaGreatDoor.Pl
open Go Go.Proofs.YtbnpclndiichcaaGreatDoor.Eng
theorem wu8_mod (n:Int):wu8 n=n % 256:=by
 simp only [wu8,IntKind.wrap,IntKind.bits,IntKind.signed]
 simp
theorem wi32_in (n:Int):(wi32 n=n)↔(-2147483648≤n∧n≤2147483647):=by
 simp only [wi32,IntKind.wrap,IntKind.bits,IntKind.signed]
 simp
 split <;> omega
theorem put_byte (n:Int) (k:Nat) (hk:k≤7):wu8 (Int.fdiv n ((2:Int) ^ Min.min (Int.toNat (8 * (k:Int))) 64))=((UInt8.ofNat ((n / (256:Int) ^ k) % 256).toNat).toNat:Int):=by
 have e1:Min.min (Int.toNat (8 * (k:Int))) 64=8 * k:=by omega
 have e2:(2:Int) ^ (8 * k)=(256:Int) ^ k:=by
  rw [Int.pow_mul]; rfl
 rw [e1,e2,wu8_mod,Int.fdiv_eq_ediv_of_nonneg _ (Int.le_of_lt (pow_pos k))]
 have h5:=Int.emod_nonneg (n / (256:Int) ^ k) (show (256:Int)≠0 by decide)
 have h6:=Int.emod_lt_of_pos (n / (256:Int) ^ k) (show (0:Int) < 256 by decide)
 generalize n / (256:Int) ^ k % 256=c at *
 rw [UInt8.toNat_ofNat',Nat.mod_eq_of_lt (by omega),Int.toNat_of_nonneg h5]
end Go.Proofs.YtbnpclndiichcaaGreatDoor.Pl
end
section
set_option linter.unusedVariables false
set_option linter.unusedSimpArgs false
namespace Go.Proofs.YtbnpclndiichcaaGreatDoor.Pl
open Go Go.Proofs.YtbnpclndiichcaaGreatDoor.Eng
def poolG:List UInt8→List (List UInt8×Nat)→List (List UInt8)→List UInt8×List Nat
 | p,_,[]=>(p,[])
 | p,had,s :: r=>match had.find? (fun x=>x.1 == s) with
  | some x=>((poolG p had r).1,x.2 :: (poolG p had r).2)
  | none=>((poolG (p++(s++[0])) (had++[(s,p.length)]) r).1,p.length :: (poolG (p++(s++[0])) (had++[(s,p.length)]) r).2)
def poolL (l:List (List UInt8)):List UInt8×List Nat:=poolG [] [] l
def nameAt (p:List UInt8) (n:Nat):List UInt8:=(p.drop n).takeWhile (· != 0)
theorem poolG_pre:∀ (l:List (List UInt8)) (p:List UInt8) (had:List (List UInt8×Nat)),∃ t,(poolG p had l).1=p++t
 | [],p,had=>⟨[],by simp [poolG]⟩
 | s :: r,p,had=>by
  rw [poolG]
  split
  ·exact poolG_pre r p had
  ·obtain ⟨t,ht⟩:=poolG_pre r (p++(s++[0])) (had++[(s,p.length)])
   exact ⟨(s++[0])++t,by rw [ht]; simp⟩
theorem poolG_len:∀ (l:List (List UInt8)) (p:List UInt8) (had:List (List UInt8×Nat)),(poolG p had l).2.length=l.length
 | [],p,had=>rfl
 | s :: r,p,had=>by
  rw [poolG]
  split
  ·simp [poolG_len r]
  ·simp [poolG_len r]
theorem poolG_bd:∀ (l:List (List UInt8)) (p:List UInt8) (had:List (List UInt8×Nat)) (m:Nat),(∀ s∈l,s.length≤m)→(∀ x∈had,x.2≤p.length) →
  (poolG p had l).1.length≤p.length+(m+1) * l.length∧∀ x∈(poolG p had l).2,x≤(poolG p had l).1.length
 | [],p,had,m,hs,hh=>⟨by simp [poolG],by simp [poolG]⟩
 | s :: r,p,had,m,hs,hh=>by
  have hs':∀ t∈r,t.length≤m:=fun t ht=>hs t (.tail _ ht)
  have h1:=hs s (.head _)
  have hm:(m+1) * (r.length+1)=(m+1) * r.length+(m+1):=Nat.mul_succ _ _
  rw [List.length_cons,hm]
  cases hf:had.find? (fun x=>x.1 == s) with
  | some x =>
   have e:poolG p had (s :: r)=((poolG p had r).1,x.2 :: (poolG p had r).2):=by rw [poolG,hf]
   obtain ⟨a,b⟩:=poolG_bd r p had m hs' hh
   obtain ⟨t,ht⟩:=poolG_pre r p had
   rw [e]
   refine ⟨by show (poolG p had r).1.length≤_; omega,fun y hy=>?_⟩
   rcases List.mem_cons.1 hy with rfl | hy
   ·have:=hh x (List.mem_of_find?_eq_some hf)
    show x.2≤(poolG p had r).1.length
    rw [ht,List.length_append]; omega
   ·exact b y hy
  | none =>
   have e:poolG p had (s :: r)=((poolG (p++(s++[0])) (had++[(s,p.length)]) r).1,p.length :: (poolG (p++(s++[0])) (had++[(s,p.length)]) r).2):=by rw [poolG,hf]
   obtain ⟨a,b⟩:=poolG_bd r (p++(s++[0])) (had++[(s,p.length)]) m hs' (fun x hx=>by
    rcases List.mem_append.1 hx with hx | hx
    ·have:=hh x hx; rw [List.length_append]; omega
    ·obtain rfl:x=(s,p.length):=by simpa using hx
     simp)
   obtain ⟨t,ht⟩:=poolG_pre r (p++(s++[0])) (had++[(s,p.length)])
   rw [e]
   simp only [List.length_append,List.length_singleton] at a
   refine ⟨by show (poolG (p++(s++[0])) (had++[(s,p.length)]) r).1.length≤_; omega,fun y hy=>?_⟩
   rcases List.mem_cons.1 hy with rfl | hy
   ·show p.length≤(poolG (p++(s++[0])) (had++[(s,p.length)]) r).1.length
    rw [ht]; simp
   ·exact b y hy
theorem takeWhile_zero (s t:List UInt8) (h:(0:UInt8)∉s):((s++[0])++t).takeWhile (· != 0)=s:=by
 induction s with
 | nil=>rfl
 | cons c r ih =>
  have hc:c≠0:=fun e=>h (by rw [e]; simp)
  rw [List.cons_append,List.cons_append,List.takeWhile_cons,if_pos (by simpa using hc),ih fun hm=>h (.tail _ hm)]
theorem poolG_at:∀ (l:List (List UInt8)) (p:List UInt8) (had:List (List UInt8×Nat)),(∀ s∈l,(0:UInt8)∉s) →
  (∀ x∈had,x.2 < p.length∧∀ t,nameAt (p++t) x.2=x.1)→∀ i (h:i < l.length) (h':i < (poolG p had l).2.length),nameAt (poolG p had l).1 ((poolG p had l).2[i])=l[i]∧(poolG p had l).2[i] < (poolG p had l).1.length
 | [],p,had,hz,hh,i,h,h'=>by simp at h
 | s :: r,p,had,hz,hh,i,h,h'=>by
  have hz':∀ s∈r,(0:UInt8)∉s:=fun t ht=>hz t (.tail _ ht)
  cases hf:had.find? (fun x=>x.1 == s) with
  | some x =>
   have e:poolG p had (s :: r)=((poolG p had r).1,x.2 :: (poolG p had r).2):=by rw [poolG,hf]
   simp only [e] at h' ⊢
   cases i with
   | zero =>
    obtain ⟨t,ht⟩:=poolG_pre r p had
    have hx:=hh x (List.mem_of_find?_eq_some hf)
    have hs:x.1=s:=by simpa using List.find?_some hf
    rw [List.getElem_cons_zero,List.getElem_cons_zero,ht,hx.2,hs]
    exact ⟨rfl,by rw [List.length_append]; omega⟩
   | succ i =>
    simp only [List.getElem_cons_succ]
    exact poolG_at r p had hz' hh i (by simpa using h) (by simpa using h')
  | none =>
   have e:poolG p had (s :: r)=((poolG (p++(s++[0])) (had++[(s,p.length)]) r).1,p.length :: (poolG (p++(s++[0])) (had++[(s,p.length)]) r).2):=by rw [poolG,hf]
   have hn:∀ t,nameAt (p++(s++[0])++t) p.length=s:=fun t=>by
    unfold nameAt
    rw [List.append_assoc,List.drop_left]
    exact takeWhile_zero s t (hz s (.head _))
   simp only [e] at h' ⊢
   cases i with
   | zero =>
    obtain ⟨t,ht⟩:=poolG_pre r (p++(s++[0])) (had++[(s,p.length)])
    rw [List.getElem_cons_zero,List.getElem_cons_zero,ht,hn]
    exact ⟨rfl,by simp; omega⟩
   | succ i =>
    simp only [List.getElem_cons_succ]
    refine poolG_at r _ _ hz' (fun x hx=>?_) i (by simpa using h) (by simpa using h')
    rcases List.mem_append.1 hx with hx | hx
    ·obtain ⟨q1,q2⟩:=hh x hx
     exact ⟨by rw [List.length_append]; omega,fun t=>by rw [List.append_assoc]; exact q2 _⟩
    ·obtain rfl:x=(s,p.length):=by simpa using hx
     exact ⟨by simp,hn⟩
end Go.Proofs.YtbnpclndiichcaaGreatDoor.Pl
end
section
set_option linter.unusedVariables false
set_option linter.unusedSimpArgs false
namespace Go.Proofs.YtbnpclndiichcaaGreatDoor.Pl
open Go Go.Proofs.YtbnpclndiichcaaGreatDoor.Eng
structure WI (bad:Bool) (l:List UInt8) (F:Bool) (b:List UInt8) (N:Nat):Prop where
 bad:bad = !F
 eq:F=true→l=b
 len:l.length≤N
theorem WI.step {bad F:Bool} {l b:List UInt8} {N k:Nat} {n:Int} (h:WI bad l F b N) (hk:k=1∨k=4∨k=8):WI (bad || !fits k n) (l++if fits k n=true then be k n else []) (F && fits k n) (b++be k n) (N+8):=by
 obtain ⟨h1,h2,h3⟩:=h
 refine ⟨by rw [h1]; cases F <;> cases fits k n <;> rfl,fun hF=>?_,?_⟩
 ·rw [Bool.and_eq_true] at hF
  rw [h2 hF.1,if_pos hF.2]
 ·rw [List.length_append]
  split
  ·rw [be_len]; omega
  ·simp; omega
def tyW (l:List (Ty×Nat)):List UInt8:=(l.map fun x=>be 4 x.1.1++be 1 (if x.1.2.1=true then 1 else 0)++be 1 (x.2:Int)).flatten
def tyF (l:List (Ty×Nat)):Bool:=l.all fun x=>fits 4 x.1.1 && fits 1 (if x.1.2.1=true then 1 else 0) && fits 1 (x.2:Int)
def lpW (k:Nat) (l:List Rec):List UInt8:=(l.map fun c=>be k c.1++be 4 c.2).flatten
def lpF (k:Nat) (l:List Rec):Bool:=l.all fun c=>fits k c.1 && fits 4 c.2
def secW (k:Nat) (l:List Rec):List UInt8:=(l.map fun c=>be k c.1).flatten
def secF (k:Nat) (l:List Rec):Bool:=l.all fun c=>fits k c.1
def kdW (l:List Rec):List UInt8:=(l.map fun c=>be 1 c.2).flatten
def kdF (l:List Rec):Bool:=l.all fun c=>fits 1 c.2
def namesZ (z:Zn):List (List UInt8):=z.ty.map (·.2.2)
def blockB (z:Zn) (k:Nat):List UInt8:=secW k z.tr++kdW z.tr++tyW (z.ty.zip (poolL (namesZ z)).2)++(poolL (namesZ z)).1++lpW k z.lp
def blockF (z:Zn) (k:Nat):Bool:=secF k z.tr && kdF z.tr && tyF (z.ty.zip (poolL (namesZ z)).2) && lpF k z.lp
def blockR (z:Zn) (k:Nat):List UInt8×Bool:=if countOk z=true∧blockF z k=true then (blockB z k,true) else ([],false)
theorem take_map_flat {α:Type} (l:List α) (g:α→List UInt8) (j:Nat) (h:j < l.length):((l.take (j+1)).map g).flatten=((l.take j).map g).flatten++g l[j]:=by
 rw [List.take_succ_eq_append_getElem h,List.map_append,List.flatten_append]; simp
theorem take_allS {α:Type} (l:List α) (g:α→Bool) (j:Nat) (h:j < l.length):(l.take (j+1)).all g=((l.take j).all g && g l[j]):=by
 rw [List.take_succ_eq_append_getElem h,List.all_append]; simp
end Go.Proofs.YtbnpclndiichcaaGreatDoor.Pl
end
section
set_option linter.unusedVariables false
set_option linter.unusedSimpArgs false
namespace Go.Proofs.YtbnpclndiichcaaGreatDoor.Pl
open Go Go.Proofs.YtbnpclndiichcaaGreatDoor.Eng
theorem ten_drop {l:List UInt8} (k:Nat) (h:(10:UInt8)∈l) (hk:∀ c∈l.take k,c≠10):(10:UInt8)∈l.drop k:=by
 rw [← List.take_append_drop k l] at h
 rcases List.mem_append.1 h with h | h
 ·exact absurd rfl (hk _ h)
 ·exact h
theorem dig_ten {c:UInt8} (h:isDig c=true):c≠10:=by
 rintro rfl; revert h; decide
theorem sixty_ten (l:List UInt8) (h:(10:UInt8)∈l):(10:UInt8)∈(sixtyL l).2.1:=by
 unfold sixtyL
 split
 ·rename_i c a b r
  split
  ·rename_i q
   obtain ⟨q1,q2,q3,q4⟩:=q
   have e1:c≠10:=by rw [q1]; decide
   have e2:=dig_ten q2
   have e3:=dig_ten q3
   simp only [List.mem_cons] at h
   rcases h with h | h | h | h
   ·exact absurd h.symm e1
   ·exact absurd h.symm e2
   ·exact absurd h.symm e3
   ·exact h
  ·exact h
 ·exact h
theorem more_ten (p:Int×List UInt8×Bool) (h:(10:UInt8)∈p.2.1):(10:UInt8)∈(moreL p).2.1:=by
 unfold moreL
 split
 ·exact sixty_ten _ h
 ·exact h
theorem sign_ten (l:List UInt8) (h:(10:UInt8)∈l):(10:UInt8)∈(signL l).2:=by
 cases l with
 | nil=>exact h
 | cons c r =>
  show (10:UInt8)∈(if c=45 then ((-1:Int),r) else if c=43 then (1,r) else (1,c :: r)).2
  split
  ·rename_i q
   rcases List.mem_cons.1 h with h | h
   ·rw [q] at h; exact absurd h (by decide)
   ·exact h
  ·split
   ·rename_i q
    rcases List.mem_cons.1 h with h | h
    ·rw [q] at h; exact absurd h (by decide)
    ·exact h
   ·exact h
theorem time_ten (l:List UInt8) (h:(10:UInt8)∈l):(10:UInt8)∈(timeL l).2.1:=by
 unfold timeL
 split
 ·exact h
 ·refine more_ten _ (sixty_ten _ (ten_drop _ (sign_ten l h) fun c hc=>?_))
  exact dig_ten (take_dl_dig _ _ (hour_bd _).2.1 c hc)
theorem cut_ten (c:UInt8) (hc:c≠10) (l:List UInt8) (h:(10:UInt8)∈l):(10:UInt8)∈(cutP c l).1:=by
 unfold cutP
 split
 ·rename_i q
  cases l with
  | nil=>simp at q
  | cons a r =>
   simp only [List.head?_cons,Option.some.injEq] at q
   rcases List.mem_cons.1 h with h | h
   ·exact absurd (h.trans q).symm hc
   ·exact h
 ·exact h
theorem number_ten (l:List UInt8) (m:Nat) (h:(10:UInt8)∈l):(10:UInt8)∈(numberL l m).2.1:=by
 unfold numberL
 split
 ·exact h
 ·exact ten_drop _ h fun c hc=>dig_ten (take_dl_dig _ _ (Nat.le_refl _) c hc)
theorem tail_ten (c:UInt8) (hc:c≠10) (l:List UInt8) (h:(10:UInt8)∈l) (q:l.head? = some c):(10:UInt8)∈l.tail:=by
 have:=cut_ten c hc l h
 unfold cutP at this
 rwa [if_pos q] at this
theorem week_ten (l:List UInt8) (h:(10:UInt8)∈l):(10:UInt8)∈(weekL l).2.2.2.1:=by
 unfold weekL
 exact number_ten _ _ (cut_ten 46 (by decide) _ (number_ten _ _ (cut_ten 46 (by decide) _ (number_ten _ _ h))))
theorem date_ten (l:List UInt8) (h:(10:UInt8)∈l):(10:UInt8)∈(dateL l).2.2.2.2.1:=by
 unfold dateL
 split
 ·rename_i q
  exact week_ten _ (tail_ten 77 (by decide) l h q)
 ·split
  ·rename_i q
   exact number_ten _ _ (tail_ten 74 (by decide) l h q)
  ·exact number_ten _ _ h
theorem parseL_ten (l:List UInt8) (h:(10:UInt8)∈l):(10:UInt8)∈(parseL l).2.2.2.2.2.1:=by
 have hd:=date_ten l h
 unfold parseL
 by_cases h1:(dateL l).2.2.2.2.2=true
 ·rw [if_pos h1]
  by_cases h2:(dateL l).2.2.2.2.1.head? = some 47
  ·rw [if_pos h2]
   split
   ·exact time_ten _ (tail_ten 47 (by decide) _ hd h2)
   ·exact h
  ·rw [if_neg h2]
   split
   ·exact hd
   ·exact h
 ·rw [if_neg h1]; exact h
theorem rule_ten (l:List UInt8) (h:(10:UInt8)∈l):(10:UInt8)∈(ruleP l).rest:=parseL_ten _ (cut_ten 44 (by decide) _ h)
theorem abbr_ten {l:List UInt8} (h:abbrL l=true):(10:UInt8)∉l:=fun hm=>by
 unfold abbrL at h
 simp only [Bool.and_eq_true,Bool.not_eq_true'] at h
 have:=List.any_eq_false.1 h.2 10 hm
 revert this; decide
theorem abbr_zero {l:List UInt8} (h:abbrL l=true):(0:UInt8)∉l:=fun hm=>by
 unfold abbrL at h
 simp only [Bool.and_eq_true,Bool.not_eq_true'] at h
 have:=List.any_eq_false.1 h.2 0 hm
 revert this; decide
theorem name_ten (l:List UInt8) (hk:(nameP l).2.1=true) (h:(10:UInt8)∈l):(10:UInt8)∈(nameP l).2.2:=by
 unfold nameP at hk ⊢
 split
 ·rename_i q
  rw [if_pos q] at hk
  simp only [Bool.and_eq_true] at hk
  have ht:=tail_ten 60 (by decide) l h q
  generalize l.tail=t at *
  obtain ⟨k1,k2⟩:=hk
  have k3:=abbr_ten k2
  unfold splitL at k1 k3 ⊢
  split
  ·rename_i q2
   rw [if_pos q2] at k3
   refine ten_drop _ ht fun c hc e=>?_
   rw [List.take_succ_eq_append_getElem q2] at hc
   rcases List.mem_append.1 hc with hc | hc
   ·rw [e] at hc; exact k3 hc
   ·have:=(nl_spec (· == 62) t _ q2).2 rfl
    simp only [List.mem_singleton] at hc
    rw [← hc,e] at this
    revert this; decide
  ·rename_i q2
   rw [if_neg q2] at k1; cases k1
 ·rename_i q
  rw [if_neg q] at hk
  exact ten_drop _ h fun c hc e=>abbr_ten hk (e ▸ hc)
theorem foot_ten {l:List UInt8} (h:(Ft.parse l).2=true):(10:UInt8)∉l:=fun hm=>by
 unfold Ft.parse at h
 by_cases h1:(usualP l).ok=true
 ·rw [if_pos h1] at h
  have k1:(10:UInt8)∈(usualP l).rest:=by
   unfold usualP at h1 ⊢
   simp only [Bool.and_eq_true] at h1
   exact time_ten _ (name_ten l h1.1 hm)
  by_cases h2:(usualP l).rest=[]
  ·rw [h2] at k1; simp at k1
  ·rw [if_neg h2] at h
   by_cases h3:(summerP (usualP l).o (usualP l).rest).ok=true
   ·rw [if_pos h3] at h
    have k2:(10:UInt8)∈(summerP (usualP l).o (usualP l).rest).rest:=by
     unfold summerP at h3 ⊢
     split
     ·rename_i q
      rw [if_pos q] at h3
      exact time_ten _ (name_ten _ h3 k1)
     ·rename_i q
      rw [if_neg q] at h3
      exact name_ten _ h3 k1
    by_cases h4:(ruleP (summerP (usualP l).o (usualP l).rest).rest).ok=true
    ·rw [if_pos h4] at h
     by_cases h5:(ruleP (ruleP (summerP (usualP l).o (usualP l).rest).rest).rest).ok=true
     ·rw [if_pos h5] at h
      have k3:=rule_ten _ (rule_ten _ k2)
      split at h
      ·rename_i q; rw [q] at k3; simp at k3
      ·cases h
     ·rw [if_neg h5] at h; cases h
    ·rw [if_neg h4] at h; cases h
   ·rw [if_neg h3] at h; cases h
 ·rw [if_neg h1] at h; cases h
end Go.Proofs.YtbnpclndiichcaaGreatDoor.Pl
end
section
set_option linter.unusedVariables false
set_option linter.unusedSimpArgs false
namespace Go.Proofs.YtbnpclndiichcaaGreatDoor.Pl
open Go Go.Proofs.YtbnpclndiichcaaGreatDoor.Eng
def dd (n:Int):List UInt8:=[UInt8.ofNat (48+(n / 10 % 10).toNat),UInt8.ofNat (48+(n % 10).toNat)]
def hms (x:Int):List UInt8:=dd (x / 3600)++58 :: (dd (x / 60 % 60)++58 :: dd (x % 60))
end Go.Proofs.YtbnpclndiichcaaGreatDoor.Pl
end
section
set_option linter.unusedVariables false
set_option linter.unusedSimpArgs false
namespace Go.Proofs.YtbnpclndiichcaaGreatDoor.Pl
open Go Go.Proofs.YtbnpclndiichcaaGreatDoor.Eng
def midL (l:LR):Int:=(l.1+1) * 86400
def instR (z:Zn) (l:LR):Int:=if l.2.2=true then midL l - (lookZ z (midL l - 1)).1 else midL l
def recG (z:Zn):Int→List LR→List Rec
 | _,[]=>[]
 | s,l :: r=>(instR z l+s+min l.2.1 0,s+l.2.1) :: recG z (s+l.2.1) r
def stepsL (ls:List LR):Int:=(ls.map (·.2.1)).sum
def recAll (z:Zn) (t:Tb):List Rec:=recG z 0 t.ls++(if t.has=true then [(t.ex+stepsL t.ls,stepsL t.ls)] else [])
def recErr:Nat→Rec→List Rec→Int
 | _,_,[]=>0
 | k,b,c :: r =>
  if 200 < k then 8 else if c.1 < 0 then 9 else if (decide (c.2 - b.2=0) && r.isEmpty)=false∧c.2 - b.2≠1∧c.2 - b.2≠-1 then 6
  else if 0 < k∧c.1 - b.1 < (if (decide (c.2 - b.2=0) && r.isEmpty)=true then 0 else 2419199) then 7 else recErr (k+1) c r
def recE (l:List Rec):Int:=recErr 0 (-2419199,0) l
theorem recErr_ok:∀ (l:List Rec) (k:Nat) (b:Rec),recErr k b l=0↔recOk k b l=true
 | [],k,b=>by simp [recErr,recOk]
 | c :: r,k,b=>by
  rw [recErr,recOk]
  generalize (decide (c.2 - b.2=0) && r.isEmpty)=e
  rw [Bool.and_eq_true,← recErr_ok r (k+1) c]
  simp only [Bool.and_eq_true,Bool.or_eq_true,decide_eq_true_eq]
  split
  ·constructor
   ·intro h; omega
   ·intro h; omega
  split
  ·constructor
   ·intro h; omega
   ·intro h; omega
  cases e
  ·simp only [true_and,Bool.false_eq_true,false_or,if_false]
   split
   ·constructor
    ·intro h; omega
    ·intro h; omega
   split
   ·constructor
    ·intro h; omega
    ·intro h; omega
   ·constructor
    ·intro h; exact ⟨⟨⟨⟨by omega,by omega⟩,by omega⟩,by omega⟩,h⟩
    ·intro h; exact h.2
  ·simp only [Bool.true_eq_false,false_and,if_false,true_or,and_true,if_true]
   split
   ·constructor
    ·intro h; omega
    ·intro h; omega
   ·constructor
    ·intro h; exact ⟨⟨⟨by omega,by omega⟩,by omega⟩,h⟩
    ·intro h; exact h.2
def inI (n:Int):Prop:=-9223372036854775808≤n∧n≤9223372036854775807
instance (n:Int):Decidable (inI n):=by unfold inI; infer_instance
def shiftS (z:Zn) (ls:List LR) (p:Int):Int:=((ls.filter fun l=>decide (instR z l≤p)).map (·.2.1)).sum
def shiftR (z:Zn) (ls:List LR) (p:Int):Int×Bool:=if inI (p+shiftS z ls p) then (p+shiftS z ls p,true) else (0,false)
def zn0:Zn:=⟨[],[],[],[],0⟩
def rising:List Rec→Bool
 | []=>true
 | [_]=>true
 | a :: b :: r=>decide (a.1 < b.1) && rising (b :: r)
end Go.Proofs.YtbnpclndiichcaaGreatDoor.Pl
end
section
set_option linter.unusedVariables false
set_option linter.unusedSimpArgs false
namespace Go.Proofs.YtbnpclndiichcaaGreatDoor.Pl
open Go Go.Proofs.YtbnpclndiichcaaGreatDoor.Eng
structure CompOk (z:Zn) (t:Tb) (y:Zn):Prop where
 lp:z.lp=[]
 zr:zoneRight z=true
 tr:rightT t=true
 ro:recE (recAll z t)=0
 al:z.tr.all (fun c=>(shiftR z t.ls c.1).2)=true
 ri:rising (z.tr.map fun c=>((shiftR z t.ls c.1).1,c.2))=true
 eq:y=⟨z.ty,z.tr.map fun c=>((shiftR z t.ls c.1).1,c.2),recAll z t,z.ft,if t.has=true then 4 else z.v⟩
end Go.Proofs.YtbnpclndiichcaaGreatDoor.Pl
end
section
set_option linter.unusedVariables false
set_option linter.unusedSimpArgs false
namespace Go.Proofs.YtbnpclndiichcaaGreatDoor.Pl
open Go Go.Proofs.YtbnpclndiichcaaGreatDoor.Eng
def secD (k:Nat):Nat→List UInt8→List Int
 | 0,_=>[]
 | n+1,b=>numB (b.take k) :: secD k n (b.drop k)
def tyD:Nat→List UInt8→List (Int×Int×Int)
 | 0,_=>[]
 | n+1,b=>(numB (b.take 4),numB ((b.drop 4).take 1),numB ((b.drop 5).take 1)) :: tyD n (b.drop 6)
def lpD (k:Nat):Nat→List UInt8→List Rec
 | 0,_=>[]
 | n+1,b=>(numB (b.take k),numB ((b.drop k).take 4)) :: lpD k n (b.drop (k+4))
def abbrAt (p:List UInt8) (a:Int):List UInt8×Bool :=
 if 0≤a∧a < p.length∧(0:UInt8)∈p.drop a.toNat∧abbrL (nameAt p a.toNat)=true then (nameAt p a.toNat,true) else ([],false)
structure Hd where
 v:Int
 ut:Int
 sd:Int
 lp:Int
 tr:Int
 ty:Int
 ch:Int
def hd0:Hd:=⟨0,0,0,0,0,0,0⟩
def tupHd (h:Hd):Int×Int×Int×Int×Int×Int×Int×Unit:=(h.v,h.ut,h.sd,h.lp,h.tr,h.ty,h.ch,())
def headOk (h:Hd):Bool:=nin h.lp 0 201 && nin h.tr 0 2000 && nin h.ty 1 64 && nin h.ch 1 256 && nin h.v 1 4 && (h.ut == 0 || h.ut == h.ty) && (h.sd == 0 || h.sd == h.ty)
def sizeR (h:Hd) (k:Nat):Int:=if headOk h=true∧(k=4∨k=8) then h.tr * (k+1)+h.ty * 6+h.ch+h.lp * (k+4)+h.sd+h.ut else 0
def markOk (sd ut:List UInt8):Bool:=sd.all (fun c=>decide (c.toNat≤1)) && ut.all (fun c=>decide (c.toNat≤1)) && (List.range ut.length).all fun i=>!(ut.getD i 0 == 1) || sd.getD i 0 == 1
def oTy (h:Hd) (k:Nat):Nat:=(k+1) * h.tr.toNat
def oCh (h:Hd) (k:Nat):Nat:=oTy h k+6 * h.ty.toNat
def oLp (h:Hd) (k:Nat):Nat:=oCh h k+h.ch.toNat
def oSd (h:Hd) (k:Nat):Nat:=oLp h k+(k+4) * h.lp.toNat
def oUt (h:Hd) (k:Nat):Nat:=oSd h k+h.sd.toNat
def tysD (h:Hd) (b:List UInt8) (k:Nat):List (Int×Int×Int):=tyD h.ty.toNat (b.drop (oTy h k))
def chD (h:Hd) (b:List UInt8) (k:Nat):List UInt8:=(b.drop (oCh h k)).take h.ch.toNat
def blockZ (h:Hd) (b:List UInt8) (k:Nat):Zn :=
 ⟨(tysD h b k).map fun x=>(x.1,x.2.1 == 1,(abbrAt (chD h b k) x.2.2).1),(secD k h.tr.toNat b).zip (secD 1 h.tr.toNat (b.drop (k * h.tr.toNat))),lpD k h.lp.toNat (b.drop (oLp h k)),[],h.v⟩
def blockK (h:Hd) (b:List UInt8) (k:Nat):Bool :=
 (tysD h b k).all (fun x=>decide (x.2.1 < 2)) && (tysD h b k).all (fun x=>(abbrAt (chD h b k) x.2.2).2) && markOk ((b.drop (oSd h k)).take h.sd.toNat) ((b.drop (oUt h k)).take h.ut.toNat)
def blockD (h:Hd) (b:List UInt8) (k:Nat):Zn×Bool :=
 if sizeR h k≠0∧(b.length:Int)=sizeR h k∧blockK h b k=true then (blockZ h b k,true) else (zn0,false)
def versR (c:Int):Int:=if c=0 then 1 else if 50≤c∧c≤52 then c - 48 else 0
def headG (b:List UInt8):Hd :=
 ⟨versR (numB ((b.drop 4).take 1)),numB ((b.drop 20).take 4),numB ((b.drop 24).take 4),numB ((b.drop 28).take 4),numB ((b.drop 32).take 4),numB ((b.drop 36).take 4),numB ((b.drop 40).take 4)⟩
def magicL:List UInt8:=[84,90,105,102]
def headD (b:List UInt8):Hd×Bool :=
 if 44≤b.length∧b.take 4=magicL∧((b.drop 5).take 15).all (· == 0)=true∧headOk (headG b)=true then (headG b,true) else (hd0,false)
def headE (h:Hd):List UInt8 :=
 magicL++((if 1 < h.v then [UInt8.ofNat (48+h.v).toNat] else [0])++(List.replicate 15 0++(be 4 h.ut++(be 4 h.sd++(be 4 h.lp++(be 4 h.tr++(be 4 h.ty++be 4 h.ch)))))))
def hdZ (z:Zn):Hd:=⟨z.v,0,0,z.lp.length,z.tr.length,z.ty.length,(poolL (namesZ z)).1.length⟩
def szZ (z:Zn):Nat:=if z.v=1 then 4 else 8
def partR (z:Zn) (k:Nat):List UInt8:=headE (hdZ z)++blockB z k
def encR (z:Zn):List UInt8×Bool :=
 if (blockR z (szZ z)).2=true∧zoneRight z=true then
  (if z.v=1 then partR z 4 else headE ⟨z.v,0,0,0,0,1,1⟩++(List.replicate 7 0++(partR z 8++(10 :: (z.ft++[10])))),true)
 else ([],false)
def hSz (h:Hd) (k:Nat):Nat:=if h.v=1 then 4 else k
def cutOk (b:List UInt8) (k:Nat):Bool:=(headD b).2 && decide (sizeR (headD b).1 (hSz (headD b).1 k)≤(b.length:Int) - 44)
def cutA (b:List UInt8) (k:Nat):List UInt8:=(b.drop 44).take (sizeR (headD b).1 (hSz (headD b).1 k)).toNat
def cutB (b:List UInt8) (k:Nat):List UInt8:=(b.drop 44).drop (sizeR (headD b).1 (hSz (headD b).1 k)).toNat
def footOk (b:List UInt8):Bool:=decide (2≤b.length) && b.head? == some 10 && b.getLast? == some 10 && !(b.tail.dropLast).any (· == 10)
def readD (b:List UInt8):Zn×Bool :=
 if cutOk b 4=true then
  (if (headD b).1.v=1 then
   (if (blockD (headD b).1 (cutA b 4) 4).2=true∧cutB b 4=[] then ((blockD (headD b).1 (cutA b 4) 4).1,true) else (zn0,false))
  else if cutOk (cutB b 4) 8=true∧(headD (cutB b 4)).1.v=(headD b).1.v∧(blockD (headD (cutB b 4)).1 (cutA (cutB b 4) 8) 8).2=true∧footOk (cutB (cutB b 4) 8)=true then
   ({ (blockD (headD (cutB b 4)).1 (cutA (cutB b 4) 8) 8).1 with ft:=(cutB (cutB b 4) 8).tail.dropLast },true) else (zn0,false))
 else (zn0,false)
def decR (b:List UInt8):Zn×Int :=
 if (readD b).2=true then (if zoneRight (readD b).1=true then ((readD b).1,0) else (zn0,9)) else (zn0,2)
end Go.Proofs.YtbnpclndiichcaaGreatDoor.Pl
end
section
set_option linter.unusedVariables false
set_option linter.unusedSimpArgs false
namespace Go.Proofs.YtbnpclndiichcaaGreatDoor.Pl
open Go Go.Proofs.YtbnpclndiichcaaGreatDoor.Eng
theorem be_take (k:Nat) (n:Int) (t:List UInt8):(be k n++t).take k=be k n:=by
 rw [List.take_append_of_le_length (by rw [be_len]; omega),List.take_of_length_le (by rw [be_len]; omega)]
theorem be_drop (k:Nat) (n:Int) (t:List UInt8):(be k n++t).drop k=t:=by
 rw [List.drop_append_of_le_length (by rw [be_len]; omega),List.drop_of_length_le (by rw [be_len]; omega),List.nil_append]
theorem sec_len (k:Nat) (l:List Rec):(secW k l).length=k * l.length:=by
 induction l with
 | nil=>simp [secW]
 | cons c r ih =>
  unfold secW at ih ⊢
  rw [List.map_cons,List.flatten_cons,List.length_append,be_len,ih,List.length_cons,Nat.mul_succ]; omega
theorem kd_len (l:List Rec):(kdW l).length=l.length:=by
 induction l with
 | nil=>simp [kdW]
 | cons c r ih =>
  unfold kdW at ih ⊢
  rw [List.map_cons,List.flatten_cons,List.length_append,be_len,ih,List.length_cons]; omega
theorem ty_len (l:List (Ty×Nat)):(tyW l).length=6 * l.length:=by
 induction l with
 | nil=>simp [tyW]
 | cons c r ih =>
  unfold tyW at ih ⊢
  rw [List.map_cons,List.flatten_cons,List.length_append,List.length_append,List.length_append,be_len,be_len,be_len,ih,List.length_cons,Nat.mul_succ]; omega
theorem lp_len (k:Nat) (l:List Rec):(lpW k l).length=(k+4) * l.length:=by
 induction l with
 | nil=>simp [lpW]
 | cons c r ih =>
  unfold lpW at ih ⊢
  rw [List.map_cons,List.flatten_cons,List.length_append,List.length_append,be_len,be_len,ih,List.length_cons,Nat.mul_succ]; omega
theorem sec_back {k:Nat} (hk:k=1∨k=4∨k=8):∀ (l:List Rec) (t:List UInt8),secF k l=true→secD k l.length (secW k l++t)=l.map (·.1)
 | [],t,h=>rfl
 | c :: r,t,h=>by
  simp only [secF,List.all_cons,Bool.and_eq_true] at h
  have e:secW k (c :: r)++t=be k c.1++(secW k r++t):=by simp [secW]
  rw [e,List.length_cons,secD,be_take,be_drop,num_be hk h.1,sec_back hk r t h.2,List.map_cons]
theorem kd_back:∀ (l:List Rec) (t:List UInt8),kdF l=true→secD 1 l.length (kdW l++t)=l.map (·.2)
 | [],t,h=>rfl
 | c :: r,t,h=>by
  simp only [kdF,List.all_cons,Bool.and_eq_true] at h
  have e:kdW (c :: r)++t=be 1 c.2++(kdW r++t):=by simp [kdW]
  rw [e,List.length_cons,secD,be_take,be_drop,num_be (.inl rfl) h.1,kd_back r t h.2,List.map_cons]
theorem ty_back:∀ (l:List (Ty×Nat)) (t:List UInt8),tyF l=true→tyD l.length (tyW l++t)=l.map fun x=>(x.1.1,(if x.1.2.1=true then 1 else 0),(x.2:Int))
 | [],t,h=>rfl
 | c :: r,t,h=>by
  simp only [tyF,List.all_cons,Bool.and_eq_true] at h
  have e:tyW (c :: r)++t=be 4 c.1.1++(be 1 (if c.1.2.1=true then 1 else 0)++(be 1 (c.2:Int)++(tyW r++t))):=by simp [tyW]
  have e5:(be 4 c.1.1++(be 1 (if c.1.2.1=true then 1 else 0)++(be 1 (c.2:Int)++(tyW r++t)))).drop 5=be 1 (c.2:Int)++(tyW r++t):=by
   rw [show (5:Nat)=4+1 from rfl,← List.drop_drop,be_drop,be_drop]
  have e6:(be 4 c.1.1++(be 1 (if c.1.2.1=true then 1 else 0)++(be 1 (c.2:Int)++(tyW r++t)))).drop 6=tyW r++t:=by
   rw [show (6:Nat)=5+1 from rfl,← List.drop_drop,e5,be_drop]
  rw [e,List.length_cons,tyD,e5,e6,be_take,be_drop,be_take,be_take,num_be (.inr (.inl rfl)) h.1.1.1,num_be (.inl rfl) h.1.1.2,num_be (.inl rfl) h.1.2,ty_back r t h.2,List.map_cons]
theorem lp_back {k:Nat} (hk:k=1∨k=4∨k=8):∀ (l:List Rec) (t:List UInt8),lpF k l=true→lpD k l.length (lpW k l++t)=l
 | [],t,h=>rfl
 | c :: r,t,h=>by
  simp only [lpF,List.all_cons,Bool.and_eq_true] at h
  have e:lpW k (c :: r)++t=be k c.1++(be 4 c.2++(lpW k r++t)):=by simp [lpW]
  rw [e,List.length_cons,lpD,← List.drop_drop,be_take,be_drop,be_take,be_drop,num_be hk h.1.1,num_be (.inr (.inl rfl)) h.1.2,lp_back hk r t h.2]
theorem poolN_cong':∀ (l a b:List (List UInt8)),(∀ s,a.contains s=b.contains s)→poolN a l=poolN b l
 | [],a,b,h=>rfl
 | s :: r,a,b,h=>by
  rw [poolN,poolN,h s]
  split
  ·exact poolN_cong' r a b h
  ·rw [poolN_cong' r (s :: a) (s :: b) fun t=>by simp only [List.contains_cons,h t]]
theorem poolG_size:∀ (l:List (List UInt8)) (p:List UInt8) (had:List (List UInt8×Nat)),(poolG p had l).1.length=p.length+poolN (had.map (·.1)) l
 | [],p,had=>by simp [poolG,poolN]
 | s :: r,p,had=>by
  have hc:(had.map (·.1)).contains s=(had.find? (fun x=>x.1 == s)).isSome:=by
   induction had with
   | nil=>rfl
   | cons x t ih =>
    rw [List.map_cons,List.contains_cons,ih,List.find?_cons]
    cases hx:x.1 == s
    ·have:(s == x.1)=false:=by rw [Bool.eq_false_iff] at hx ⊢; exact fun q=>hx (by simpa using (eq_of_beq q).symm)
     rw [this]; rfl
    ·have:(s == x.1)=true:=by simpa using (eq_of_beq hx).symm
     rw [this]; rfl
  rw [poolG,poolN,hc]
  cases hf:had.find? (fun x=>x.1 == s) with
  | some x=>simp only [Option.isSome_some,if_true]; exact poolG_size r p had
  | none =>
   simp only [Option.isSome_none,Bool.false_eq_true,if_false]
   rw [poolG_size r,List.length_append,List.length_append,List.length_singleton,poolN_cong' r _ (s :: had.map (·.1)) fun t=>by
     rw [Bool.eq_iff_iff,List.contains_iff_mem,List.contains_iff_mem,List.map_append,List.mem_append,List.mem_cons]
     simp only [List.map_cons,List.map_nil,List.mem_singleton]
     exact ⟨fun h=>h.symm,fun h=>h.symm⟩]
   omega
theorem poolL_size (l:List (List UInt8)):(poolL l).1.length=poolN [] l:=by
 unfold poolL; rw [poolG_size]; simp
theorem poolG_last:∀ (l:List (List UInt8)) (p:List UInt8) (had:List (List UInt8×Nat)),(p=[]∨p.getLast? = some 0)→((poolG p had l).1=[]∨(poolG p had l).1.getLast? = some 0)
 | [],p,had,h=>h
 | s :: r,p,had,h=>by
  rw [poolG]
  split
  ·exact poolG_last r p had h
  ·refine poolG_last r _ _ (.inr ?_)
   rw [← List.append_assoc,List.getLast?_concat]
theorem zero_in {p:List UInt8} (h:p=[]∨p.getLast? = some 0) {a:Nat} (ha:a < p.length):(0:UInt8)∈p.drop a:=by
 rcases h with h | h
 ·rw [h] at ha; simp at ha
 ·have:(p.drop a).getLast? = some 0:=by rw [List.getLast?_drop,if_neg (by omega),h]
  exact List.mem_of_getLast? this
theorem abbr_at {l:List (List UInt8)} (hl:l.all abbrL=true) {i:Nat} (h:i < l.length) (h':i < (poolL l).2.length):abbrAt (poolL l).1 (((poolL l).2[i]:Nat):Int)=(l[i],true):=by
 have hz:∀ s∈l,(0:UInt8)∉s:=fun s hs=>abbr_zero (List.all_eq_true.1 hl s hs)
 obtain ⟨a,b⟩:=poolG_at l [] [] hz (by simp) i h h'
 have e0:=zero_in (poolG_last l [] [] (.inl rfl)) b
 unfold poolL at h' ⊢
 unfold abbrAt
 rw [Int.toNat_natCast,a]
 rw [if_pos ⟨by omega,by omega,e0,List.all_eq_true.1 hl _ (List.getElem_mem h)⟩]
structure CountOk (z:Zn):Prop where
 ab:(namesZ z).all abbrL=true
 ch:1≤(poolL (namesZ z)).1.length∧(poolL (namesZ z)).1.length≤256
 lp:z.lp.length≤201
 tr:z.tr.length≤2000
 ty:1≤z.ty.length∧z.ty.length≤64
 v:1≤z.v∧z.v≤4
theorem count_ok {z:Zn} (h:countOk z=true):CountOk z:=by
 unfold countOk nin at h
 simp only [Bool.and_eq_true,decide_eq_true_eq] at h
 have e:=poolL_size (namesZ z)
 unfold namesZ at e
 exact ⟨h.1.1.1.1.1.1,by unfold namesZ; omega,by omega,by omega,by omega,h.2⟩
theorem head_hdZ {z:Zn} (h:countOk z=true):headOk (hdZ z)=true:=by
 have:=count_ok h
 obtain ⟨h1,h2,h3,h4,h5,h6⟩:=this
 unfold headOk hdZ nin
 simp only [Bool.and_eq_true,decide_eq_true_eq]
 exact ⟨⟨⟨⟨⟨⟨by omega,by omega⟩,by omega⟩,by omega⟩,h6⟩,rfl⟩,rfl⟩
theorem block_len {z:Zn} {k:Nat}:(blockB z k).length=(k+1) * z.tr.length+6 * z.ty.length+(poolL (namesZ z)).1.length+(k+4) * z.lp.length:=by
 have hz1:(z.ty.zip (poolL (namesZ z)).2).length=z.ty.length:=by
  rw [List.length_zip]; unfold poolL; rw [poolG_len]; simp [namesZ]
 unfold blockB
 simp only [List.length_append]
 rw [sec_len,kd_len,ty_len,lp_len,hz1,Nat.add_mul k 1]; omega
theorem size_hdZ {z:Zn} (h:countOk z=true) {k:Nat} (hk:k=4∨k=8):sizeR (hdZ z) k=((blockB z k).length:Int):=by
 unfold sizeR
 rw [if_pos ⟨head_hdZ h,hk⟩,block_len]
 unfold hdZ
 simp only [Int.natCast_add,Int.natCast_mul]
 rw [Int.mul_comm (z.tr.length:Int),Int.mul_comm (z.ty.length:Int),Int.mul_comm (z.lp.length:Int)]
 simp
theorem drop_pre {α:Type} (a b:List α) (n:Nat) (h:a.length=n):(a++b).drop n=b:=List.drop_left' h
theorem take_pre {α:Type} (a b:List α) (n:Nat) (h:a.length=n):(a++b).take n=a:=List.take_left' h
theorem zip_map_pair (l:List Rec):(l.map (·.1)).zip (l.map (·.2))=l:=by
 induction l with
 | nil=>rfl
 | cons c r ih=>simp [ih]
theorem block_back {z:Zn} {k:Nat} (hk:k=4∨k=8) (hc:countOk z=true) (hf:blockF z k=true):blockD (hdZ z) (blockB z k) k=({ z with ft:=[] },true):=by
 have co:=count_ok hc
 have hk3:k=1∨k=4∨k=8:=.inr hk
 have plen:(poolL (namesZ z)).2.length=z.ty.length:=by unfold poolL; rw [poolG_len]; simp [namesZ]
 have nlen:(namesZ z).length=z.ty.length:=by simp [namesZ]
 have hz1:(z.ty.zip (poolL (namesZ z)).2).length=z.ty.length:=by rw [List.length_zip,plen]; omega
 unfold blockF at hf
 simp only [Bool.and_eq_true] at hf
 obtain ⟨⟨⟨f1,f2⟩,f3⟩,f4⟩:=hf
 have eT:(hdZ z).tr.toNat=z.tr.length:=by simp [hdZ]
 have eY:(hdZ z).ty.toNat=z.ty.length:=by simp [hdZ]
 have eC:(hdZ z).ch.toNat=(poolL (namesZ z)).1.length:=by simp [hdZ]
 have eL:(hdZ z).lp.toNat=z.lp.length:=by simp [hdZ]
 have b0:blockB z k=secW k z.tr++(kdW z.tr++(tyW (z.ty.zip (poolL (namesZ z)).2)++((poolL (namesZ z)).1++lpW k z.lp))):=by simp [blockB]
 have b1:(blockB z k).drop (k * z.tr.length)=kdW z.tr++(tyW (z.ty.zip (poolL (namesZ z)).2)++((poolL (namesZ z)).1++lpW k z.lp)):=by
  rw [b0]; exact drop_pre _ _ _ (sec_len k _)
 have b2:(blockB z k).drop (oTy (hdZ z) k)=tyW (z.ty.zip (poolL (namesZ z)).2)++((poolL (namesZ z)).1++lpW k z.lp):=by
  unfold oTy
  rw [eT,Nat.add_mul,Nat.one_mul,← List.drop_drop,b1]; exact drop_pre _ _ _ (kd_len _)
 have b3:(blockB z k).drop (oCh (hdZ z) k)=(poolL (namesZ z)).1++lpW k z.lp:=by
  unfold oCh
  rw [eY,← List.drop_drop,b2]; exact drop_pre _ _ _ (by rw [ty_len,hz1])
 have b4:(blockB z k).drop (oLp (hdZ z) k)=lpW k z.lp:=by
  unfold oLp
  rw [eC,← List.drop_drop,b3]; exact drop_pre _ _ _ rfl
 have ty:tysD (hdZ z) (blockB z k) k=(z.ty.zip (poolL (namesZ z)).2).map fun x=>(x.1.1,(if x.1.2.1=true then 1 else 0),(x.2:Int)):=by
  unfold tysD
  rw [b2,eY]
  have:=ty_back _ ((poolL (namesZ z)).1++lpW k z.lp) f3
  rwa [hz1] at this
 have ch:chD (hdZ z) (blockB z k) k=(poolL (namesZ z)).1:=by
  unfold chD; rw [b3,eC]; exact take_pre _ _ _ rfl
 have at':∀ x∈z.ty.zip (poolL (namesZ z)).2,abbrAt (poolL (namesZ z)).1 (x.2:Int)=(x.1.2.2,true):=fun x hx=>by
  obtain ⟨i,hi,rfl⟩:=List.getElem_of_mem hx
  rw [hz1] at hi
  have e:(z.ty.zip (poolL (namesZ z)).2)[i]'(by rw [hz1]; exact hi)=(z.ty[i],(poolL (namesZ z)).2[i]'(by rw [plen]; exact hi)):=List.getElem_zip
  rw [e]
  have:=abbr_at co.ab (i:=i) (by rw [nlen]; exact hi) (by rw [plen]; exact hi)
  rw [this]
  simp [namesZ]
 have eZ:blockZ (hdZ z) (blockB z k) k={ z with ft:=[] }:=by
  have e9:=lp_back hk3 z.lp [] f4
  rw [List.append_nil] at e9
  unfold blockZ
  rw [ty,ch,eT,eL,b4,b1,b0,sec_back hk3 _ _ f1,kd_back _ _ f2,e9,zip_map_pair,List.map_map]
  have:List.map ((fun x:Int×Int×Int=>((x.1,x.2.1 == 1,(abbrAt (poolL (namesZ z)).1 x.2.2).1):Ty))∘fun x:Ty×Nat=>(x.1.1,(if x.1.2.1=true then 1 else 0),(x.2:Int))) (z.ty.zip (poolL (namesZ z)).2)=z.ty:=by
   have e2:z.ty=(z.ty.zip (poolL (namesZ z)).2).map (·.1):=by rw [List.map_fst_zip (by omega)]
   conv=>rhs; rw [e2]
   refine List.map_congr_left fun x hx=>?_
   simp only [Function.comp_apply]
   rw [at' x hx]
   obtain ⟨⟨o,d,a⟩,n⟩:=x
   cases d <;> rfl
  rw [this]
  rfl
 have eK:blockK (hdZ z) (blockB z k) k=true:=by
  unfold blockK
  have em:markOk (((blockB z k).drop (oSd (hdZ z) k)).take (hdZ z).sd.toNat) (((blockB z k).drop (oUt (hdZ z) k)).take (hdZ z).ut.toNat)=true:=by
   have e1:(hdZ z).sd.toNat=0:=rfl
   have e2:(hdZ z).ut.toNat=0:=rfl
   rw [e1,e2,List.take_zero,List.take_zero]; rfl
  rw [em,ty,ch,Bool.and_true,Bool.and_eq_true,List.all_map,List.all_map]
  refine ⟨List.all_eq_true.2 fun x hx=>?_,List.all_eq_true.2 fun x hx=>?_⟩
  ·simp only [Function.comp_apply]
   split <;> rfl
  ·simp only [Function.comp_apply]
   rw [at' x hx]
 have sz:=size_hdZ hc hk
 have lb:=block_len (z:=z) (k:=k)
 unfold blockD
 rw [if_pos ⟨by rw [sz]; have:=co.ty; omega,sz.symm,eK⟩,eZ]
end Go.Proofs.YtbnpclndiichcaaGreatDoor.Pl
end
section
set_option linter.unusedVariables false
set_option linter.unusedSimpArgs false
namespace Go.Proofs.YtbnpclndiichcaaGreatDoor.Pl
open Go Go.Proofs.YtbnpclndiichcaaGreatDoor.Eng
theorem headE_len (h:Hd):(headE h).length=44:=by
 unfold headE
 simp only [List.length_append,be_len,List.length_replicate]
 split <;> rfl
theorem vers_back {v:Int} (h:1≤v∧v≤4):versR (numB (if 1 < v then [UInt8.ofNat (48+v).toNat] else [0]))=v:=by
 have:v=1∨v=2∨v=3∨v=4:=by omega
 rcases this with rfl | rfl | rfl | rfl <;> rfl
structure HeadOk (h:Hd):Prop where
 lp:0≤h.lp∧h.lp≤201
 tr:0≤h.tr∧h.tr≤2000
 ty:1≤h.ty∧h.ty≤64
 ch:1≤h.ch∧h.ch≤256
 v:1≤h.v∧h.v≤4
 ut:h.ut=0∨h.ut=h.ty
 sd:h.sd=0∨h.sd=h.ty
theorem head_ok {h:Hd} (q:headOk h=true):HeadOk h:=by
 unfold headOk nin at q
 simp only [Bool.and_eq_true,decide_eq_true_eq,Bool.or_eq_true,beq_iff_eq] at q
 exact ⟨q.1.1.1.1.1.1,q.1.1.1.1.1.2,q.1.1.1.1.2,q.1.1.1.2,q.1.1.2,q.1.2,q.2⟩
theorem fits4 {n:Int} (h:0≤n∧n≤10000):fits 4 n=true:=by
 unfold fits
 rw [if_neg (by decide),decide_eq_true_eq,show ((256:Int) ^ 4)=4294967296 by decide]
 omega
theorem head_back {h:Hd} (q:headOk h=true) (t:List UInt8):headD (headE h++t)=(h,true):=by
 have o:=head_ok q
 have hl:=headE_len h
 obtain ⟨v,ut,sd,lp,tr,ty,ch⟩:=h
 have n1:=num_be (k:=4) (.inr (.inl rfl)) (fits4 (n:=ut) (by have:=o.ut; have:=o.ty; simp only at *; omega))
 have n2:=num_be (k:=4) (.inr (.inl rfl)) (fits4 (n:=sd) (by have:=o.sd; have:=o.ty; simp only at *; omega))
 have n3:=num_be (k:=4) (.inr (.inl rfl)) (fits4 (n:=lp) (by have:=o.lp; simp only at *; omega))
 have n4:=num_be (k:=4) (.inr (.inl rfl)) (fits4 (n:=tr) (by have:=o.tr; simp only at *; omega))
 have n5:=num_be (k:=4) (.inr (.inl rfl)) (fits4 (n:=ty) (by have:=o.ty; simp only at *; omega))
 have n6:=num_be (k:=4) (.inr (.inl rfl)) (fits4 (n:=ch) (by have:=o.ch; simp only at *; omega))
 have nv:=vers_back o.v
 obtain ⟨c,hc⟩:∃ c,(if 1 < v then [UInt8.ofNat (48+v).toNat] else [(0:UInt8)])=[c]:=by split <;> exact ⟨_,rfl⟩
 simp only at nv
 rw [hc] at nv
 have e:headE ⟨v,ut,sd,lp,tr,ty,ch⟩++t=magicL++([c]++(List.replicate 15 0++(be 4 ut++(be 4 sd++(be 4 lp++(be 4 tr++(be 4 ty++(be 4 ch++t)))))))):=by
  unfold headE
  simp only []
  rw [hc]
  simp only [List.append_assoc]
 have hlt:44≤(headE ⟨v,ut,sd,lp,tr,ty,ch⟩++t).length:=by rw [List.length_append,hl]; omega
 rw [e] at hlt ⊢
 have d4:(magicL++([c]++(List.replicate 15 0++(be 4 ut++(be 4 sd++(be 4 lp++(be 4 tr++(be 4 ty++(be 4 ch++t))))))))).drop 4=[c]++(List.replicate 15 0++(be 4 ut++(be 4 sd++(be 4 lp++(be 4 tr++(be 4 ty++(be 4 ch++t))))))):=drop_pre _ _ _ rfl
 have d5:(magicL++([c]++(List.replicate 15 0++(be 4 ut++(be 4 sd++(be 4 lp++(be 4 tr++(be 4 ty++(be 4 ch++t))))))))).drop 5=List.replicate 15 0++(be 4 ut++(be 4 sd++(be 4 lp++(be 4 tr++(be 4 ty++(be 4 ch++t)))))):=by
  rw [show (5:Nat)=4+1 from rfl,← List.drop_drop,d4]; rfl
 have d20:(magicL++([c]++(List.replicate 15 0++(be 4 ut++(be 4 sd++(be 4 lp++(be 4 tr++(be 4 ty++(be 4 ch++t))))))))).drop 20=be 4 ut++(be 4 sd++(be 4 lp++(be 4 tr++(be 4 ty++(be 4 ch++t))))):=by
  rw [show (20:Nat)=5+15 from rfl,← List.drop_drop,d5]; exact drop_pre _ _ _ (by simp)
 have d24:(magicL++([c]++(List.replicate 15 0++(be 4 ut++(be 4 sd++(be 4 lp++(be 4 tr++(be 4 ty++(be 4 ch++t))))))))).drop 24=be 4 sd++(be 4 lp++(be 4 tr++(be 4 ty++(be 4 ch++t)))):=by
  rw [show (24:Nat)=20+4 from rfl,← List.drop_drop,d20,be_drop]
 have d28:(magicL++([c]++(List.replicate 15 0++(be 4 ut++(be 4 sd++(be 4 lp++(be 4 tr++(be 4 ty++(be 4 ch++t))))))))).drop 28=be 4 lp++(be 4 tr++(be 4 ty++(be 4 ch++t))):=by
  rw [show (28:Nat)=24+4 from rfl,← List.drop_drop,d24,be_drop]
 have d32:(magicL++([c]++(List.replicate 15 0++(be 4 ut++(be 4 sd++(be 4 lp++(be 4 tr++(be 4 ty++(be 4 ch++t))))))))).drop 32=be 4 tr++(be 4 ty++(be 4 ch++t)):=by
  rw [show (32:Nat)=28+4 from rfl,← List.drop_drop,d28,be_drop]
 have d36:(magicL++([c]++(List.replicate 15 0++(be 4 ut++(be 4 sd++(be 4 lp++(be 4 tr++(be 4 ty++(be 4 ch++t))))))))).drop 36=be 4 ty++(be 4 ch++t):=by
  rw [show (36:Nat)=32+4 from rfl,← List.drop_drop,d32,be_drop]
 have d40:(magicL++([c]++(List.replicate 15 0++(be 4 ut++(be 4 sd++(be 4 lp++(be 4 tr++(be 4 ty++(be 4 ch++t))))))))).drop 40=be 4 ch++t:=by
  rw [show (40:Nat)=36+4 from rfl,← List.drop_drop,d36,be_drop]
 have eG:headG (magicL++([c]++(List.replicate 15 0++(be 4 ut++(be 4 sd++(be 4 lp++(be 4 tr++(be 4 ty++(be 4 ch++t)))))))))=⟨v,ut,sd,lp,tr,ty,ch⟩:=by
  unfold headG
  rw [d4,d20,d24,d28,d32,d36,d40,be_take,be_take,be_take,be_take,be_take,be_take,n1,n2,n3,n4,n5,n6]
  rw [take_pre [c] _ 1 rfl,nv]
 unfold headD
 rw [eG,d5,take_pre (List.replicate 15 (0:UInt8)) _ 15 (by simp)]
 rw [if_pos ⟨hlt,rfl,by decide,q⟩]
theorem cut_back {h:Hd} (q:headOk h=true) (d r:List UInt8) (k:Nat) (hk:sizeR h (hSz h k)=(d.length:Int)) :
  cutOk (headE h++(d++r)) k=true∧cutA (headE h++(d++r)) k=d∧cutB (headE h++(d++r)) k=r:=by
 have hb:=head_back q (d++r)
 have hl:=headE_len h
 have hd:(headE h++(d++r)).drop 44=d++r:=drop_pre _ _ _ hl
 refine ⟨?_,?_,?_⟩
 ·unfold cutOk
  rw [hb]
  simp only [Bool.true_and,decide_eq_true_eq]
  rw [hk,List.length_append,List.length_append,hl]; omega
 ·unfold cutA
  rw [hb,hd]
  simp only []
  rw [hk,Int.toNat_natCast]; exact take_pre _ _ _ rfl
 ·unfold cutB
  rw [hb,hd]
  simp only []
  rw [hk,Int.toNat_natCast]; exact drop_pre _ _ _ rfl
theorem foot_back {l:List UInt8} (h:(10:UInt8)∉l):footOk (10 :: (l++[10]))=true∧(10 :: (l++[10])).tail.dropLast=l:=by
 have e:(10 :: (l++[10])).tail.dropLast=l:=by rw [List.tail_cons,List.dropLast_concat]
 refine ⟨?_,e⟩
 unfold footOk
 rw [e]
 have:(10 :: (l++[(10:UInt8)])).getLast? = some 10:=by rw [← List.cons_append,List.getLast?_concat]
 rw [this]
 have:l.any (· == 10)=false:=by
  rw [List.any_eq_false]; intro c hc e; exact h (by have:=eq_of_beq e; rwa [this] at hc)
 rw [this]
 simp
theorem right_count {z:Zn} (h:zoneRight z=true):countOk z=true:=by
 unfold zoneRight at h
 simp only [Bool.and_eq_true] at h
 exact h.1.1.1.1.1
theorem right_ends {z:Zn} (h:zoneRight z=true):endsOk z=true:=by
 unfold zoneRight at h
 simp only [Bool.and_eq_true] at h
 exact h.2
theorem right_ten {z:Zn} (h:zoneRight z=true):(10:UInt8)∉z.ft:=by
 have:=right_ends h
 unfold endsOk at this
 rw [Bool.or_eq_true] at this
 rcases this with h1 | h1
 ·rw [List.isEmpty_iff.1 h1]; simp
 ·rw [Bool.and_eq_true] at h1; exact foot_ten h1.1
theorem right_one {z:Zn} (h:zoneRight z=true) (hv:z.v=1):z.ft=[]:=by
 have:=right_ends h
 unfold endsOk at this
 rw [Bool.or_eq_true] at this
 rcases this with h1 | h1
 ·exact List.isEmpty_iff.1 h1
 ·rw [Bool.and_eq_true,hv] at h1
  have:=of_decide_eq_true h1.2
  split at this <;> omega
theorem blockR_ok {z:Zn} {k:Nat} (h:(blockR z k).2=true):blockF z k=true∧blockR z k=(blockB z k,true):=by
 unfold blockR at h ⊢
 split at h
 ·rename_i q; rw [if_pos q]; exact ⟨q.2,rfl⟩
 ·cases h
theorem enc_ok {z:Zn} (h:(encR z).2=true):(blockR z (szZ z)).2=true∧zoneRight z=true:=by
 unfold encR at h
 split at h
 ·assumption
 ·cases h
theorem hd1_ok {v:Int} (h:1≤v∧v≤4):headOk ⟨v,0,0,0,0,1,1⟩=true:=by
 unfold headOk nin
 simp [h]
theorem file_one {z:Zn} (hr:zoneRight z=true) (hv:z.v=1) (hb:blockF z 4=true) (t:List UInt8) :
  readD (partR z 4++t)=if t=[] then (z,true) else (zn0,false):=by
 have hc:=right_count hr
 have hq:=head_hdZ hc
 have hs:hSz (hdZ z) 4=4:=by unfold hSz; split <;> rfl
 obtain ⟨c1,c2,c3⟩:=cut_back hq (blockB z 4) t 4 (by rw [hs]; exact size_hdZ hc (.inl rfl))
 have e:partR z 4++t=headE (hdZ z)++(blockB z 4++t):=by unfold partR; rw [List.append_assoc]
 have hh:=head_back hq (blockB z 4++t)
 have hf:=right_one hr hv
 unfold readD
 rw [e,if_pos c1,c2,c3,hh]
 simp only []
 rw [if_pos (show (hdZ z).v=1 from hv),block_back (.inl rfl) hc hb]
 have:({ z with ft:=[] }:Zn)=z:=by rw [← hf]
 simp only [true_and]
 rw [this]
theorem file_more {z:Zn} (hr:zoneRight z=true) (hv:z.v≠1) (hb:blockF z 8=true) (t:List UInt8) :
  readD (headE ⟨z.v,0,0,0,0,1,1⟩++(List.replicate 7 0++(partR z 8++t)))=if footOk t=true then ({ z with ft:=t.tail.dropLast },true) else (zn0,false):=by
 have hc:=right_count hr
 have co:=count_ok hc
 have hq:=head_hdZ hc
 have hq1:=hd1_ok co.v
 have hs1:hSz (⟨z.v,0,0,0,0,1,1⟩:Hd) 4=4:=by unfold hSz; split <;> rfl
 have hs:hSz (hdZ z) 8=8:=by unfold hSz; exact if_neg hv
 obtain ⟨c1,c2,c3⟩:=cut_back hq1 (List.replicate 7 0) (partR z 8++t) 4 (by rw [hs1]; unfold sizeR; rw [if_pos ⟨hq1,.inl rfl⟩]; simp)
 obtain ⟨d1,d2,d3⟩:=cut_back hq (blockB z 8) t 8 (by rw [hs]; exact size_hdZ hc (.inr rfl))
 have e:partR z 8++t=headE (hdZ z)++(blockB z 8++t):=by unfold partR; rw [List.append_assoc]
 have hh:=head_back hq (blockB z 8++t)
 have hh1:=head_back hq1 (List.replicate 7 0++(partR z 8++t))
 unfold readD
 rw [if_pos c1,c2,c3,hh1]
 simp only []
 rw [if_neg hv,e,hh,d1,d2,d3]
 simp only []
 rw [block_back (.inr rfl) hc hb]
 simp only [true_and]
 rw [show (hdZ z).v=z.v from rfl]
 simp only [true_and]
theorem enc_dec {z:Zn} (h:(encR z).2=true):decR (encR z).1=(z,0):=by
 obtain ⟨h1,h2⟩:=enc_ok h
 have hb:=(blockR_ok h1).1
 have e:encR z=(if z.v=1 then partR z 4 else headE ⟨z.v,0,0,0,0,1,1⟩++(List.replicate 7 0++(partR z 8++(10 :: (z.ft++[10])))),true):=by
  unfold encR; rw [if_pos ⟨h1,h2⟩]
 have hrd:readD (encR z).1=(z,true):=by
  rw [e]
  simp only []
  by_cases hv:z.v=1
  ·rw [if_pos hv]
   have:szZ z=4:=by unfold szZ; rw [if_pos hv]
   rw [this] at hb
   have:=file_one h2 hv hb []
   rwa [List.append_nil,if_pos rfl] at this
  ·rw [if_neg hv]
   have:szZ z=8:=by unfold szZ; rw [if_neg hv]
   rw [this] at hb
   obtain ⟨f1,f2⟩:=foot_back (right_ten h2)
   rw [file_more h2 hv hb,if_pos f1,f2]
 unfold decR
 rw [hrd,if_pos rfl,if_pos h2]
end Go.Proofs.YtbnpclndiichcaaGreatDoor.Pl
end
section
set_option linter.unusedVariables false
set_option linter.unusedSimpArgs false
namespace Go.Proofs.YtbnpclndiichcaaGreatDoor.Pl
open Go Go.Proofs.YtbnpclndiichcaaGreatDoor.Eng
theorem num_fits' {k:Nat} (hk:k=1∨k=4∨k=8) {l:List UInt8} (h:l.length=k):fits k (numB l)=true:=by
 subst h; exact num_fits hk
theorem take_len' {l:List UInt8} {k:Nat} (h:k≤l.length):(l.take k).length=k:=by rw [List.length_take]; omega
theorem secD_len (k:Nat):∀ (n:Nat) (b:List UInt8),(secD k n b).length=n
 | 0,b=>rfl
 | n+1,b=>by rw [secD,List.length_cons,secD_len k n]
theorem tyD_len:∀ (n:Nat) (b:List UInt8),(tyD n b).length=n
 | 0,b=>rfl
 | n+1,b=>by rw [tyD,List.length_cons,tyD_len n]
theorem lpD_len (k:Nat):∀ (n:Nat) (b:List UInt8),(lpD k n b).length=n
 | 0,b=>rfl
 | n+1,b=>by rw [lpD,List.length_cons,lpD_len k n]
theorem secD_fits {k:Nat} (hk:k=1∨k=4∨k=8):∀ (n:Nat) (b:List UInt8),k * n≤b.length→∀ x∈secD k n b,fits k x=true
 | 0,b,h,x,hx=>by simp [secD] at hx
 | n+1,b,h,x,hx=>by
  rw [Nat.mul_succ] at h
  rw [secD] at hx
  rcases List.mem_cons.1 hx with rfl | hx
  ·exact num_fits' hk (take_len' (by omega))
  ·exact secD_fits hk n _ (by rw [List.length_drop]; omega) x hx
theorem lpD_fits {k:Nat} (hk:k=1∨k=4∨k=8):∀ (n:Nat) (b:List UInt8),(k+4) * n≤b.length→∀ x∈lpD k n b,fits k x.1=true∧fits 4 x.2=true
 | 0,b,h,x,hx=>by simp [lpD] at hx
 | n+1,b,h,x,hx=>by
  rw [Nat.mul_succ] at h
  rw [lpD] at hx
  rcases List.mem_cons.1 hx with rfl | hx
  ·exact ⟨num_fits' hk (take_len' (by omega)),num_fits' (.inr (.inl rfl)) (take_len' (by rw [List.length_drop]; omega))⟩
  ·exact lpD_fits hk n _ (by rw [List.length_drop]; omega) x hx
theorem size_sum {h:Hd} {k:Nat} (hs:sizeR h k≠0):headOk h=true∧(k=4∨k=8)∧sizeR h k=((oUt h k+h.ut.toNat:Nat):Int):=by
 unfold sizeR at hs ⊢
 split at hs
 ·rename_i q
  rw [if_pos q]
  have o:=head_ok q.1
  obtain ⟨t,ht⟩:∃ t:Nat,h.tr=t:=⟨h.tr.toNat,by have:=o.tr; omega⟩
  obtain ⟨y,hy⟩:∃ t:Nat,h.ty=t:=⟨h.ty.toNat,by have:=o.ty; omega⟩
  obtain ⟨c,hc⟩:∃ t:Nat,h.ch=t:=⟨h.ch.toNat,by have:=o.ch; omega⟩
  obtain ⟨l,hl⟩:∃ t:Nat,h.lp=t:=⟨h.lp.toNat,by have:=o.lp; omega⟩
  obtain ⟨s,hsd⟩:∃ t:Nat,h.sd=t:=⟨h.sd.toNat,by have:=o.sd; have:=o.ty; omega⟩
  obtain ⟨u,hu⟩:∃ t:Nat,h.ut=t:=⟨h.ut.toNat,by have:=o.ut; have:=o.ty; omega⟩
  refine ⟨q.1,q.2,?_⟩
  unfold oUt oSd oLp oCh oTy
  rw [ht,hy,hc,hl,hsd,hu]
  simp only [Int.toNat_natCast,Int.natCast_add,Int.natCast_mul]
  rw [Int.mul_comm (t:Int),Int.mul_comm (y:Int),Int.mul_comm (l:Int)]
  simp
 ·exact absurd rfl hs
theorem zip_mem {α β:Type} {l:List α} {m:List β} {x:α×β} (h:x∈l.zip m):x.1∈l∧x.2∈m:=List.of_mem_zip h
theorem dec_read {b:List UInt8} (h:(decR b).2=0):(readD b).2=true∧zoneRight (readD b).1=true∧decR b=((readD b).1,0):=by
 unfold decR at h ⊢
 split at h
 ·rename_i q
  rw [if_pos q]
  split at h
  ·rename_i r; rw [if_pos r]; exact ⟨q,r,rfl⟩
  ·exact absurd h (by decide)
 ·exact absurd h (by decide)
theorem foot_long {l t:List UInt8} (h:(10:UInt8)∉l):footOk ((10 :: (l++[10]))++t)=t.isEmpty:=by
 cases t with
 | nil=>rw [List.append_nil]; exact (foot_back h).1
 | cons c r =>
  have e:((10 :: (l++[10]))++(c :: r)).tail.dropLast=l++(10 :: (c :: r).dropLast):=by
   rw [List.cons_append,List.tail_cons,List.append_assoc,List.singleton_append,List.dropLast_append_of_ne_nil (by simp)]
   rfl
  unfold footOk
  rw [e,List.any_append,List.any_cons]
  simp
theorem enc_form {z:Zn} (h:(encR z).2=true):zoneRight z=true∧blockF z (szZ z)=true ∧
  (encR z).1=(if z.v=1 then partR z 4 else headE ⟨z.v,0,0,0,0,1,1⟩++(List.replicate 7 0++(partR z 8++(10 :: (z.ft++[10]))))):=by
 obtain ⟨h1,h2⟩:=enc_ok h
 refine ⟨h2,(blockR_ok h1).1,?_⟩
 unfold encR; rw [if_pos ⟨h1,h2⟩]
theorem part_len (z:Zn) (k:Nat):(partR z k).length=44+(blockB z k).length:=by unfold partR; rw [List.length_append,headE_len]
theorem readD_cut {b:List UInt8} (h:cutOk b 4=false):readD b=(zn0,false):=by unfold readD; rw [if_neg (by rw [h]; simp)]
end Go.Proofs.YtbnpclndiichcaaGreatDoor.Pl
end
section
set_option linter.unusedVariables false
set_option linter.unusedSimpArgs false
namespace Go.Proofs.YtbnpclndiichcaaGreatDoor.Pl
open Go Go.Proofs.YtbnpclndiichcaaGreatDoor.Eng
theorem secD_get (k:Nat):∀ (n:Nat) (l:List UInt8) (j:Nat) (h:j < (secD k n l).length),(secD k n l)[j]=numB ((l.drop (k * j)).take k)
 | 0,l,j,h=>by simp [secD] at h
 | n+1,l,0,h=>by simp only [secD,List.getElem_cons_zero,Nat.mul_zero,List.drop_zero]
 | n+1,l,j+1,h=>by
  simp only [secD,List.getElem_cons_succ]
  rw [secD_get k n (l.drop k) j (by simpa [secD] using h),List.drop_drop,Nat.mul_succ,Nat.add_comm k]
theorem tyD_get:∀ (n:Nat) (l:List UInt8) (j:Nat) (h:j < (tyD n l).length),(tyD n l)[j]=(numB ((l.drop (6 * j)).take 4),numB ((l.drop (6 * j+4)).take 1),numB ((l.drop (6 * j+5)).take 1))
 | 0,l,j,h=>by simp [tyD] at h
 | n+1,l,0,h=>by simp only [tyD,List.getElem_cons_zero,Nat.mul_zero,List.drop_zero,Nat.zero_add]
 | n+1,l,j+1,h=>by
  simp only [tyD,List.getElem_cons_succ]
  rw [tyD_get n (l.drop 6) j (by simpa [tyD] using h),List.drop_drop,List.drop_drop,List.drop_drop]
  rw [show 6+6 * j=6 * (j+1) by omega,show 6+(6 * j+4)=6 * (j+1)+4 by omega,show 6+(6 * j+5)=6 * (j+1)+5 by omega]
theorem lpD_get (k:Nat):∀ (n:Nat) (l:List UInt8) (j:Nat) (h:j < (lpD k n l).length),(lpD k n l)[j]=(numB ((l.drop ((k+4) * j)).take k),numB ((l.drop ((k+4) * j+k)).take 4))
 | 0,l,j,h=>by simp [lpD] at h
 | n+1,l,0,h=>by simp only [lpD,List.getElem_cons_zero,Nat.mul_zero,List.drop_zero,Nat.zero_add]
 | n+1,l,j+1,h=>by
  simp only [lpD,List.getElem_cons_succ]
  rw [lpD_get k n (l.drop (k+4)) j (by simpa [lpD] using h),List.drop_drop,List.drop_drop]
  rw [Nat.mul_succ,show k+4+(k+4) * j=(k+4) * j+(k+4) by omega,show k+4+((k+4) * j+k)=(k+4) * j+(k+4)+k by omega]
theorem take_nl (l:List UInt8):l.take (nl (· == 0) l)=l.takeWhile (· != 0):=by
 unfold nl
 have:(fun c:UInt8=>!(c == 0))=(· != 0):=rfl
 rw [this]
 induction l with
 | nil=>rfl
 | cons c r ih =>
  rw [List.takeWhile_cons]
  split
  ·rw [List.length_cons,List.take_succ_cons,ih]
  ·rfl
theorem zero_nl (l:List UInt8):(0:UInt8)∈l↔nl (· == 0) l < l.length:=by
 have:=nl_any (· == 0) l
 constructor
 ·intro h
  have h2:l.any (· == 0)=true:=List.any_eq_true.2 ⟨0,h,rfl⟩
  rw [h2] at this
  exact of_decide_eq_true this.symm
 ·intro h
  rw [decide_eq_true h] at this
  obtain ⟨c,hc,e⟩:=List.any_eq_true.1 this
  exact (eq_of_beq e) ▸ hc
end Go.Proofs.YtbnpclndiichcaaGreatDoor.Pl
end
section
set_option linter.unusedVariables false
set_option linter.unusedSimpArgs false
namespace Go.Proofs.YtbnpclndiichcaaGreatDoor.Pl
open Go Go.Proofs.YtbnpclndiichcaaGreatDoor.Eng
theorem enc_read {z:Zn} (h:(encR z).2=true):readD (encR z).1=(z,true):=by
 have e:=enc_dec h
 obtain ⟨h1,h2,h3⟩:=dec_read (b:=(encR z).1) (by rw [e])
 rw [e] at h3
 have:z=(readD (encR z).1).1:=congrArg Prod.fst h3
 exact Prod.ext this.symm h1
theorem enc_more {z:Zn} (h:(encR z).2=true) {t:List UInt8} (ht:t≠[]):readD ((encR z).1++t)=(zn0,false):=by
 obtain ⟨hr,hb,e⟩:=enc_form h
 rw [e]
 by_cases hv:z.v=1
 ·have hsz:szZ z=4:=by unfold szZ; rw [if_pos hv]
  rw [hsz] at hb
  rw [if_pos hv,file_one hr hv hb,if_neg ht]
 ·have hsz:szZ z=8:=by unfold szZ; rw [if_neg hv]
  rw [hsz] at hb
  rw [if_neg hv,List.append_assoc,List.append_assoc,List.append_assoc,file_more hr hv hb,foot_long (right_ten hr),if_neg]
  intro q
  exact ht (List.isEmpty_iff.1 q)
theorem dec_two {b:List UInt8} (h:(readD b).2=false):decR b=(zn0,2):=by
 unfold decR; rw [if_neg (by rw [h]; simp)]
def z20:Zn:=⟨[(0,false,[85,84,67])],[],[],[85,84,67,48],2⟩
def y20:Zn:=⟨[(0,false,[85,84,67])],[],[],[],1⟩
def w20:Zn:=⟨[(0,false,[85,84,67])],[],[],[88],2⟩
def v20:Zn:=⟨[(0,false,[85,84,67])],[],[],[85,33,67,48],2⟩
theorem z20_ok:(encR z20).2=true:=by decide
theorem y20_ok:(encR y20).2=true:=by decide
theorem w20_no:(encR w20).2=false:=by decide
theorem n20_no:(encR zn0).2=false:=by decide
theorem z20_len:(encR z20).1.length=111:=by decide
theorem y20_len:(encR y20).1.length=54:=by decide
theorem nil_two:(readD []).2=false:=by decide
theorem v20_no:zoneRight v20=false:=by decide
theorem z20_set:(encR z20).1.set 107 33=headE ⟨2,0,0,0,0,1,1⟩++(List.replicate 7 0++(partR z20 8++(10 :: ([85,33,67,48]++[10])))):=by decide
theorem v20_read:readD ((encR z20).1.set 107 33)=(v20,true):=by
 have hr:=(enc_form z20_ok).1
 have hb:=(enc_form z20_ok).2.1
 have:=file_more (z:=z20) hr (by decide) hb (10 :: ([85,33,67,48]++[10]))
 rw [z20_set]
 rw [show (⟨2,0,0,0,0,1,1⟩:Hd)=⟨z20.v,0,0,0,0,1,1⟩ from rfl,this]
 rfl
theorem v20_dec:decR ((encR z20).1.set 107 33)=(zn0,9):=by
 unfold decR
 rw [v20_read,if_pos rfl,if_neg (by rw [v20_no]; simp)]
end Go.Proofs.YtbnpclndiichcaaGreatDoor.Pl
end
