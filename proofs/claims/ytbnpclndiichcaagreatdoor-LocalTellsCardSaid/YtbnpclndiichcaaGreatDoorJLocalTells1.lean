/- What the functions come to in plain data, with proofs, and what that answers. -/
import Derived.Test.YtbnpclndiichcaaGreatDoorJLocalTells0
import Derived.Lib.Strings
import Derived.Lib.Atoi
import Derived.Laws.Concat
import Derived.Laws.RangeAny
import Derived.Lib.Bytealg
import Derived.Lib.Join
section
set_option linter.unusedVariables false
set_option linter.unusedSimpArgs false
namespace Go.Proofs.YtbnpclndiichcaaGreatDoor
open Go Go.Proofs.YtbnpclndiichcaaGreatDoor.Eng
set_option maxRecDepth 100000
set_option maxHeartbeats 4000000
variable {G:Gs}
abbrev Tq14:Type:=uQ58→((List Eng.V)→Bool→Bool→Prop)→Prop
def Lq14_0 (K:(List Eng.V)→Bool→Bool→Prop):(uQ101→Prop)→uQ101→Prop:=fun k1 x2 =>
 (if decide (x2.1.2.2.2.1 < (↑(List.length x2.2.1.1):Int)) then
 (if 0≤x2.1.2.2.2.1∧x2.1.2.2.2.1 < (↑(List.length x2.2.1.1):Int) then
 (Eng.asStr (Eng.getC x2.2.1.1 (Int.toNat x2.1.2.2.2.1) (2:Nat)) False fun t3 =>
 (if Eng.roomOk (List.length x2.2.2.1+List.length [Eng.V.c (Value.string t3)]) (16:Nat) then
 k1 (((),(),(),w64 (x2.1.2.2.2.1+1),()),x2.2.1,x2.2.2.1++[Eng.V.c (Value.string t3)],())
 else
 False))
 else
 False)
 else
 K x2.2.2.1 true false)
def Lq14_0p:Lp:=⟨30,[.trim 30,.fat 3 1 416,.trim 30],upT102,upH103,0⟩
def Yq14 (a0:uQ58) (K:(List Eng.V)→Bool→Bool→Prop):Prop :=
 lp (Lq14_0 K) (((),(),(),0,()),a0,[],())
def Xq14:Tq14:=Yq14
def Jq14 (X:Tq14):Inst:=mkI 104 upL74 .nil upL4 upH5 X
def Iq14:Inst:=Jq14 Xq14
theorem Eq14:EqF Tryz.prog 22 gives Tryz.f104 [] [Lq14_0p] (Jq14 (Yq14)):=fun x y K=>by kernel_rfl
theorem Iq14_ok:InstOk Tryz.prog G.1 Iq14:=iok (gives:=gives) [Lq14_0p] okNil 22 follows Tryz.func104 (by kernel_rfl) (fun x=>by kernel_rfl) (Eq14)
abbrev Tq1b:Type:=ByteArray→(Bool→Prop)→Prop
def Lq1b_0 (K:Bool→Prop):(uQ104→Prop)→uQ104→Prop:=fun k1 x2 =>
 (if decide (x2.1.2.2.1 < (↑(ByteArray.size x2.1.1):Int)) then
 (if 0≤x2.1.2.2.1∧x2.1.2.2.1 < (↑(ByteArray.size x2.1.1):Int) then
 (if decide (Eng.bAt x2.1.1 (Int.toNat x2.1.2.2.1)≥97) then
 (if decide (Eng.bAt x2.1.1 (Int.toNat x2.1.2.2.1)≤122) then
 k1 ((x2.1.1,x2.1.2.1,w64 (x2.1.2.2.1+1),()),())
 else
 (if decide (Eng.bAt x2.1.1 (Int.toNat x2.1.2.2.1)≥65) then
 (if (!decide (Eng.bAt x2.1.1 (Int.toNat x2.1.2.2.1)≤90)) then
 (if decide (Eng.bAt x2.1.1 (Int.toNat x2.1.2.2.1) < 48) then
 (if (Eng.bAt x2.1.1 (Int.toNat x2.1.2.2.1) != 43) then
 (if (Eng.bAt x2.1.1 (Int.toNat x2.1.2.2.1) != 45) then
 K false
 else
 k1 ((x2.1.1,x2.1.2.1,w64 (x2.1.2.2.1+1),()),()))
 else
 k1 ((x2.1.1,x2.1.2.1,w64 (x2.1.2.2.1+1),()),()))
 else
 (if decide (Eng.bAt x2.1.1 (Int.toNat x2.1.2.2.1) > 57) then
 (if (Eng.bAt x2.1.1 (Int.toNat x2.1.2.2.1) != 43) then
 (if (Eng.bAt x2.1.1 (Int.toNat x2.1.2.2.1) != 45) then
 K false
 else
 k1 ((x2.1.1,x2.1.2.1,w64 (x2.1.2.2.1+1),()),()))
 else
 k1 ((x2.1.1,x2.1.2.1,w64 (x2.1.2.2.1+1),()),()))
 else
 k1 ((x2.1.1,x2.1.2.1,w64 (x2.1.2.2.1+1),()),())))
 else
 k1 ((x2.1.1,x2.1.2.1,w64 (x2.1.2.2.1+1),()),()))
 else
 (if decide (Eng.bAt x2.1.1 (Int.toNat x2.1.2.2.1) < 48) then
 (if (Eng.bAt x2.1.1 (Int.toNat x2.1.2.2.1) != 43) then
 (if (Eng.bAt x2.1.1 (Int.toNat x2.1.2.2.1) != 45) then
 K false
 else
 k1 ((x2.1.1,x2.1.2.1,w64 (x2.1.2.2.1+1),()),()))
 else
 k1 ((x2.1.1,x2.1.2.1,w64 (x2.1.2.2.1+1),()),()))
 else
 (if decide (Eng.bAt x2.1.1 (Int.toNat x2.1.2.2.1) > 57) then
 (if (Eng.bAt x2.1.1 (Int.toNat x2.1.2.2.1) != 43) then
 (if (Eng.bAt x2.1.1 (Int.toNat x2.1.2.2.1) != 45) then
 K false
 else
 k1 ((x2.1.1,x2.1.2.1,w64 (x2.1.2.2.1+1),()),()))
 else
 k1 ((x2.1.1,x2.1.2.1,w64 (x2.1.2.2.1+1),()),()))
 else
 k1 ((x2.1.1,x2.1.2.1,w64 (x2.1.2.2.1+1),()),())))))
 else
 (if decide (Eng.bAt x2.1.1 (Int.toNat x2.1.2.2.1)≥65) then
 (if (!decide (Eng.bAt x2.1.1 (Int.toNat x2.1.2.2.1)≤90)) then
 (if decide (Eng.bAt x2.1.1 (Int.toNat x2.1.2.2.1) < 48) then
 (if (Eng.bAt x2.1.1 (Int.toNat x2.1.2.2.1) != 43) then
 (if (Eng.bAt x2.1.1 (Int.toNat x2.1.2.2.1) != 45) then
 K false
 else
 k1 ((x2.1.1,x2.1.2.1,w64 (x2.1.2.2.1+1),()),()))
 else
 k1 ((x2.1.1,x2.1.2.1,w64 (x2.1.2.2.1+1),()),()))
 else
 (if decide (Eng.bAt x2.1.1 (Int.toNat x2.1.2.2.1) > 57) then
 (if (Eng.bAt x2.1.1 (Int.toNat x2.1.2.2.1) != 43) then
 (if (Eng.bAt x2.1.1 (Int.toNat x2.1.2.2.1) != 45) then
 K false
 else
 k1 ((x2.1.1,x2.1.2.1,w64 (x2.1.2.2.1+1),()),()))
 else
 k1 ((x2.1.1,x2.1.2.1,w64 (x2.1.2.2.1+1),()),()))
 else
 k1 ((x2.1.1,x2.1.2.1,w64 (x2.1.2.2.1+1),()),())))
 else
 k1 ((x2.1.1,x2.1.2.1,w64 (x2.1.2.2.1+1),()),()))
 else
 (if decide (Eng.bAt x2.1.1 (Int.toNat x2.1.2.2.1) < 48) then
 (if (Eng.bAt x2.1.1 (Int.toNat x2.1.2.2.1) != 43) then
 (if (Eng.bAt x2.1.1 (Int.toNat x2.1.2.2.1) != 45) then
 K false
 else
 k1 ((x2.1.1,x2.1.2.1,w64 (x2.1.2.2.1+1),()),()))
 else
 k1 ((x2.1.1,x2.1.2.1,w64 (x2.1.2.2.1+1),()),()))
 else
 (if decide (Eng.bAt x2.1.1 (Int.toNat x2.1.2.2.1) > 57) then
 (if (Eng.bAt x2.1.1 (Int.toNat x2.1.2.2.1) != 43) then
 (if (Eng.bAt x2.1.1 (Int.toNat x2.1.2.2.1) != 45) then
 K false
 else
 k1 ((x2.1.1,x2.1.2.1,w64 (x2.1.2.2.1+1),()),()))
 else
 k1 ((x2.1.1,x2.1.2.1,w64 (x2.1.2.2.1+1),()),()))
 else
 k1 ((x2.1.1,x2.1.2.1,w64 (x2.1.2.2.1+1),()),())))))
 else
 False)
 else
 (if decide ((↑(ByteArray.size x2.1.1):Int)≥3) then
 K (decide ((↑(ByteArray.size x2.1.1):Int)≤16))
 else
 K false))
def Lq1b_0p:Lp:=⟨13,[.trim 13],upT105,.nil,0⟩
def Yq1b (a0:ByteArray) (K:Bool→Prop):Prop :=
 lp (Lq1b_0 K) ((a0,false,0,()),())
def Xq1b:Tq1b:=Yq1b
def Jq1b (X:Tq1b):Inst:=mkI 87 upL106 .nil upL9 .nil X
def Iq1b:Inst:=Jq1b Xq1b
theorem Eq1b:EqF Tryz.prog 55 gives Tryz.f87 [] [Lq1b_0p] (Jq1b (Yq1b)):=fun x y K=>by kernel_rfl
theorem Iq1b_ok:InstOk Tryz.prog G.1 Iq1b:=iok (gives:=gives) [Lq1b_0p] okNil 55 follows Tryz.func87 (by kernel_rfl) (fun x=>by kernel_rfl) (Eq1b)
abbrev Tq1p:Type:=(List Eng.V)→(ByteArray→Bool→(List Eng.V)→Bool→Bool→Prop)→Prop
def Lq1p_1 (K:ByteArray→Bool→(List Eng.V)→Bool→Bool→Prop) (k1:uQ107→Prop):(uQ108→Prop)→uQ108→Prop:=fun k5 x6 =>
 (if decide (x6.1.2.2.2.2.2.2.2.2.1 < x6.1.2.2.2.2.2.2.1) then
 (if 0≤x6.1.2.2.2.2.2.2.2.2.1∧x6.1.2.2.2.2.2.2.2.2.1 < (↑(List.length x6.1.1):Int) then
 (Eng.asStr (Eng.getC x6.1.1 (Int.toNat x6.1.2.2.2.2.2.2.2.2.1) (0:Nat)) False fun t7 =>
 (if 0≤x6.1.2.2.2.2.2.2.1∧x6.1.2.2.2.2.2.2.1 < (↑(List.length x6.1.1):Int) then
 (Eng.asStr (Eng.getC x6.1.1 (Int.toNat x6.1.2.2.2.2.2.2.1) (0:Nat)) False fun t8 =>
 (if (ByteArray.toList t7 == ByteArray.toList t8) then
 (if 0≤x6.1.2.2.2.2.2.2.2.2.1∧x6.1.2.2.2.2.2.2.2.2.1 < (↑(List.length x6.2.1):Int) then
 (Eng.asInt IntKind.i64 (Eng.getC x6.2.1 (Int.toNat x6.1.2.2.2.2.2.2.2.2.1) (0:Nat)) False fun n9 =>
 k5 ((x6.1.1,x6.1.2.1,(),x6.1.2.2.2.1,x6.1.2.2.2.2.1,(),x6.1.2.2.2.2.2.2.1,n9,w64 (x6.1.2.2.2.2.2.2.2.2.1+1),()),x6.2))
 else
 False)
 else
 k5 ((x6.1.1,x6.1.2.1,(),x6.1.2.2.2.1,x6.1.2.2.2.2.1,(),x6.1.2.2.2.2.2.2.1,x6.1.2.2.2.2.2.2.2.1,w64 (x6.1.2.2.2.2.2.2.2.2.1+1),()),x6.2)))
 else
 False))
 else
 False)
 else
 (if decide (x6.1.2.2.2.2.2.2.2.1 < 0) then
 (if 0≤x6.1.2.2.2.2.2.2.1∧x6.1.2.2.2.2.2.2.1 < (↑(List.length x6.1.1):Int) then
 (Eng.asStr (Eng.getC x6.1.1 (Int.toNat x6.1.2.2.2.2.2.2.1) (0:Nat)) False fun t10 =>
 (if (↑(ByteArray.size x6.1.2.2.2.2.1+ByteArray.size t10):Int) > 9223372036854775807 then
 False
 else
 (if (↑(ByteArray.size (x6.1.2.2.2.2.1++t10)+(1:Nat)):Int) > 9223372036854775807 then
 False
 else
 (lt (x6.1.2.2.2.2.1++t10++ByteArray.mk #[(0:UInt8)]) fun v11 =>
 (if Eng.roomOk (List.length x6.2.1+List.length [Eng.V.c (Value.int IntKind.i64 (↑(ByteArray.size x6.1.2.2.2.2.1):Int))]) (8:Nat) then
 k1 ((x6.1.1,x6.1.2.1,(),x6.1.2.2.2.1,v11,(),w64 (x6.1.2.2.2.2.2.2.1+1),()),x6.2.1++[Eng.V.c (Value.int IntKind.i64 (↑(ByteArray.size x6.1.2.2.2.2.1):Int))],())
 else
 False)))))
 else
 False)
 else
 (if Eng.roomOk (List.length x6.2.1+List.length [Eng.V.c (Value.int IntKind.i64 x6.1.2.2.2.2.2.2.2.1)]) (8:Nat) then
 k1 ((x6.1.1,x6.1.2.1,(),x6.1.2.2.2.1,x6.1.2.2.2.2.1,(),w64 (x6.1.2.2.2.2.2.2.1+1),()),x6.2.1++[Eng.V.c (Value.int IntKind.i64 x6.1.2.2.2.2.2.2.2.1)],())
 else
 False)))
def Lq1p_1p:Lp:=⟨1021,[.trim 1021],upT109,upH110,0⟩
def Lq1p_0 (xq1b:Tq1b) (K:ByteArray→Bool→(List Eng.V)→Bool→Bool→Prop):(uQ107→Prop)→uQ107→Prop:=fun k1 x2 =>
 (if decide (x2.1.2.2.2.2.2.2.1 < (↑(List.length x2.1.1):Int)) then
 (if 0≤x2.1.2.2.2.2.2.2.1∧x2.1.2.2.2.2.2.2.1 < (↑(List.length x2.1.1):Int) then
 (Eng.asStr (Eng.getC x2.1.1 (Int.toNat x2.1.2.2.2.2.2.2.1) (0:Nat)) False fun t3 =>
 xq1b t3 (fun r4 =>
 (if (!r4) then
 K (ByteArray.mk #[]) false [] true true
 else
 lp (Lq1p_1 K k1) ((x2.1.1,x2.1.2.1,(),x2.1.2.2.2.1,x2.1.2.2.2.2.1,(),x2.1.2.2.2.2.2.2.1,(-1),0,()),x2.2))))
 else
 False)
 else
 (if decide ((↑(ByteArray.size x2.1.2.2.2.2.1):Int) > 256) then
 K (ByteArray.mk #[]) false [] true true
 else
 K x2.1.2.2.2.2.1 true x2.2.1 true false))
def Lq1p_0p:Lp:=⟨253,[.trim 253,.fat 6 1 1024,.trim 253],upT111,upH110,0⟩
def Yq1p (xq1b:Tq1b) (a0:(List Eng.V)) (K:ByteArray→Bool→(List Eng.V)→Bool→Bool→Prop):Prop :=
 lp (Lq1p_0 xq1b K) ((a0,ByteArray.mk #[],(),false,ByteArray.mk #[],(),0,()),[],())
def Xq1p:Tq1p:=Yq1p Xq1b
def Jq1p (X:Tq1p):Inst:=mkI 103 upL3 .nil upL112 upH5 X
def Iq1p:Inst:=Jq1p Xq1p
theorem Eq1p (xq1b:Tq1b):EqF Tryz.prog 60 gives Tryz.f103 [Jq1b xq1b] [Lq1p_0p,Lq1p_1p] (Jq1p (Yq1p xq1b)):=fun x y K=>by kernel_rfl
theorem Iq1p_ok:InstOk Tryz.prog G.1 Iq1p:=iok (gives:=gives) [Lq1p_0p,Lq1p_1p] (okCons Iq1b_ok okNil) 60 follows Tryz.func103 (by kernel_rfl) (fun x=>by kernel_rfl) (Eq1p Xq1b)
abbrev Tq0x:Type:=uQ0→(Bool→Prop)→Prop
def Yq0x (a0:uQ0) (K:Bool→Prop):Prop :=
 (if decide (a0.1 < 1) then
 K false
 else
 (if decide (a0.1 > 4) then
 K false
 else
 (if decide (a0.2.2.2.2.2.1 < 1) then
 K false
 else
 (if decide (a0.2.2.2.2.2.1 > 64) then
 K false
 else
 (if decide (a0.2.2.2.2.2.2.1 < 1) then
 K false
 else
 (if decide (a0.2.2.2.2.2.2.1 > 256) then
 K false
 else
 (if decide (a0.2.2.2.1 < 0) then
 K false
 else
 (if decide (a0.2.2.2.1 > 201) then
 K false
 else
 (if decide (a0.2.2.2.2.1 < 0) then
 K false
 else
 (if decide (a0.2.2.2.2.1 > 2000) then
 K false
 else
 (if (a0.2.1 == 0) then
 (if (a0.2.2.1 == 0) then
 K true
 else
 K (a0.2.2.1 == a0.2.2.2.2.2.1))
 else
 (if (a0.2.1 == a0.2.2.2.2.2.1) then
 (if (a0.2.2.1 == 0) then
 K true
 else
 K (a0.2.2.1 == a0.2.2.2.2.2.1))
 else
 K false))))))))))))
def Xq0x:Tq0x:=Yq0x
def Jq0x (X:Tq0x):Inst:=mkI 105 upL55 .nil upL9 .nil X
def Iq0x:Inst:=Jq0x Xq0x
theorem Eq0x:EqF Tryz.prog 73 gives Tryz.f105 [] [] (Jq0x (Yq0x)):=fun x y K=>by kernel_rfl
theorem Iq0x_ok:InstOk Tryz.prog G.1 Iq0x:=iok (gives:=gives) [] okNil 73 follows Tryz.func105 (by kernel_rfl) (fun x=>by kernel_rfl) (Eq0x)
abbrev Tq0y:Type:=uQ58→(uQ0→Bool→Prop)→Prop
def Yq0y (xq14:Tq14) (xq1p:Tq1p) (xq0x:Tq0x) (a0:uQ58) (K:uQ0→Bool→Prop):Prop :=
 xq14 a0 (fun r1 r2 r3 =>
 xq1p r1 (fun r4 r5 r6 r7 r8 =>
 (if (!r5) then
 K (0,0,0,0,0,0,0,()) false
 else
 xq0x (a0.2.2.2.2.1,0,0,(↑(List.length a0.2.2.1):Int),(↑(List.length a0.2.1):Int),(↑(List.length a0.1):Int),(↑(ByteArray.size r4):Int),()) (fun r9 =>
 (if (!r9) then
 K (0,0,0,0,0,0,0,()) false
 else
 K (a0.2.2.2.2.1,0,0,(↑(List.length a0.2.2.1):Int),(↑(List.length a0.2.1):Int),(↑(List.length a0.1):Int),(↑(ByteArray.size r4):Int),()) true)))))
def Xq0y:Tq0y:=Yq0y Xq14 Xq1p Xq0x
def Jq0y (X:Tq0y):Inst:=mkI 42 upL74 .nil upL77 .nil X
def Iq0y:Inst:=Jq0y Xq0y
theorem Eq0y (xq14:Tq14) (xq1p:Tq1p) (xq0x:Tq0x):EqF Tryz.prog 38 gives Tryz.f42 [Jq14 xq14,Jq1p xq1p,Jq0x xq0x] [] (Jq0y (Yq0y xq14 xq1p xq0x)):=fun x y K=>by kernel_rfl
theorem Iq0y_ok:InstOk Tryz.prog G.1 Iq0y:=iok (gives:=gives) [] (okCons Iq14_ok (okCons Iq1p_ok (okCons Iq0x_ok okNil))) 38 follows Tryz.func42 (by kernel_rfl) (fun x=>by kernel_rfl) (Eq0y Xq14 Xq1p Xq0x)
abbrev Tq11:Type:=(List Eng.V)→Int→(Int→Prop)→Prop
def Yq11 (a0:(List Eng.V)) (a1:Int) (K:Int→Prop):Prop :=
 (if (a1 == 0) then
 K 0
 else
 (if 0≤w64 (a1 - 1)∧w64 (a1 - 1) < (↑(List.length a0):Int) then
 (Eng.asInt IntKind.i64 (Eng.getC a0 (Int.toNat (w64 (a1 - 1))) (1:Nat)) False fun n2 =>
 K n2)
 else
 False))
def Xq11:Tq11:=Yq11
def Jq11 (X:Tq11):Inst:=mkI 195 upL113 .nil upL2 .nil X
def Iq11:Inst:=Jq11 Xq11
theorem Eq11:EqF Tryz.prog 13 gives Tryz.f195 [] [] (Jq11 (Yq11)):=fun x y K=>by kernel_rfl
theorem Iq11_ok:InstOk Tryz.prog G.1 Iq11:=iok (gives:=gives) [] okNil 13 follows Tryz.func195 (by kernel_rfl) (fun x=>by kernel_rfl) (Eq11)
abbrev Tq2f:Type:=Int→Int→(Int→Bool→Prop)→Prop
def Yq2f (a0:Int) (a1:Int) (K:Int→Bool→Prop):Prop :=
 (if decide (a1 < 0) then
 (if decide (a0 > w64 (9223372036854775807+a1)) then
 K 0 false
 else
 (if decide (a1 > 0) then
 (if decide (a0 < w64 ((-9223372036854775808)+a1)) then
 K 0 false
 else
 K (w64 (a0 - a1)) true)
 else
 K (w64 (a0 - a1)) true))
 else
 (if decide (a1 > 0) then
 (if decide (a0 < w64 ((-9223372036854775808)+a1)) then
 K 0 false
 else
 K (w64 (a0 - a1)) true)
 else
 K (w64 (a0 - a1)) true))
def Xq2f:Tq2f:=Yq2f
def Jq2f (X:Tq2f):Inst:=mkI 196 upL8 .nil upL114 .nil X
def Iq2f:Inst:=Jq2f Xq2f
theorem Eq2f:EqF Tryz.prog 27 gives Tryz.f196 [] [] (Jq2f (Yq2f)):=fun x y K=>by kernel_rfl
theorem Iq2f_ok:InstOk Tryz.prog G.1 Iq2f:=iok (gives:=gives) [] okNil 27 follows Tryz.func196 (by kernel_rfl) (fun x=>by kernel_rfl) (Eq2f)
abbrev Tq19:Type:=(List Eng.V)→(Int→Int→Prop)→Prop
def Lq19_0 (xq11:Tq11) (xq2f:Tq2f) (K:Int→Int→Prop):(uQ115→Prop)→uQ115→Prop:=fun k1 x2 =>
 (if decide (x2.1.2.2.2.1 < (↑(List.length x2.1.1):Int)) then
 (if 0≤x2.1.2.2.2.1∧x2.1.2.2.2.1 < (↑(List.length x2.1.1):Int) then
 (Eng.asInt IntKind.i64 (Eng.getC x2.1.1 (Int.toNat x2.1.2.2.2.1) (1:Nat)) False fun n3 =>
 xq11 x2.1.1 x2.1.2.2.2.1 (fun r4 =>
 (if 0≤x2.1.2.2.2.1∧x2.1.2.2.2.1 < (↑(List.length x2.1.1):Int) then
 (Eng.asInt IntKind.i64 (Eng.getC x2.1.1 (Int.toNat x2.1.2.2.2.1) (1:Nat)) False fun n5 =>
 xq11 x2.1.1 x2.1.2.2.2.1 (fun r6 =>
 xq2f n5 r6 (fun r7 r8 =>
 (if r8 then
 (if (r7 == 1) then
 (if decide (x2.1.2.2.2.1 > 200) then
 K x2.1.2.2.2.1 8
 else
 (if 0≤x2.1.2.2.2.1∧x2.1.2.2.2.1 < (↑(List.length x2.1.1):Int) then
 (Eng.asInt IntKind.i64 (Eng.getC x2.1.1 (Int.toNat x2.1.2.2.2.1) (0:Nat)) False fun n9 =>
 (if decide (n9 < 0) then
 K x2.1.2.2.2.1 9
 else
 (if decide (x2.1.2.2.2.1 > 0) then
 (if (!n3 == r4) then
 (if 0≤x2.1.2.2.2.1∧x2.1.2.2.2.1 < (↑(List.length x2.1.1):Int) then
 (Eng.asInt IntKind.i64 (Eng.getC x2.1.1 (Int.toNat x2.1.2.2.2.1) (0:Nat)) False fun n10 =>
 (if 0≤w64 (x2.1.2.2.2.1 - 1)∧w64 (x2.1.2.2.2.1 - 1) < (↑(List.length x2.1.1):Int) then
 (Eng.asInt IntKind.i64 (Eng.getC x2.1.1 (Int.toNat (w64 (x2.1.2.2.2.1 - 1))) (0:Nat)) False fun n11 =>
 (if decide (w64 (n10 - n11) < 2419199) then
 K x2.1.2.2.2.1 7
 else
 (if 0≤x2.1.2.2.2.1∧x2.1.2.2.2.1 < (↑(List.length x2.1.1):Int) then
 (Eng.asInt IntKind.i64 (Eng.getC x2.1.1 (Int.toNat x2.1.2.2.2.1) (0:Nat)) False fun n12 =>
 (if 0≤w64 (x2.1.2.2.2.1 - 1)∧w64 (x2.1.2.2.2.1 - 1) < (↑(List.length x2.1.1):Int) then
 (Eng.asInt IntKind.i64 (Eng.getC x2.1.1 (Int.toNat (w64 (x2.1.2.2.2.1 - 1))) (0:Nat)) False fun n13 =>
 (if decide (n12 < n13) then
 K x2.1.2.2.2.1 7
 else
 k1 ((x2.1.1,x2.1.2.1,x2.1.2.2.1,w64 (x2.1.2.2.2.1+1),()),())))
 else
 False))
 else
 False)))
 else
 False))
 else
 False)
 else
 (if 0≤x2.1.2.2.2.1∧x2.1.2.2.2.1 < (↑(List.length x2.1.1):Int) then
 (Eng.asInt IntKind.i64 (Eng.getC x2.1.1 (Int.toNat x2.1.2.2.2.1) (0:Nat)) False fun n14 =>
 (if 0≤w64 (x2.1.2.2.2.1 - 1)∧w64 (x2.1.2.2.2.1 - 1) < (↑(List.length x2.1.1):Int) then
 (Eng.asInt IntKind.i64 (Eng.getC x2.1.1 (Int.toNat (w64 (x2.1.2.2.2.1 - 1))) (0:Nat)) False fun n15 =>
 (if decide (n14 < n15) then
 K x2.1.2.2.2.1 7
 else
 k1 ((x2.1.1,x2.1.2.1,x2.1.2.2.1,w64 (x2.1.2.2.2.1+1),()),())))
 else
 False))
 else
 False))
 else
 k1 ((x2.1.1,x2.1.2.1,x2.1.2.2.1,w64 (x2.1.2.2.2.1+1),()),()))))
 else
 False))
 else
 (if decide (x2.1.2.2.2.1 > 200) then
 K x2.1.2.2.2.1 8
 else
 (if 0≤x2.1.2.2.2.1∧x2.1.2.2.2.1 < (↑(List.length x2.1.1):Int) then
 (Eng.asInt IntKind.i64 (Eng.getC x2.1.1 (Int.toNat x2.1.2.2.2.1) (0:Nat)) False fun n16 =>
 (if decide (n16 < 0) then
 K x2.1.2.2.2.1 9
 else
 (if (!r7 == (-1)) then
 (if (x2.1.2.2.2.1 == w64 ((↑(List.length x2.1.1):Int) - 1)) then
 (if (!n3 == r4) then
 K x2.1.2.2.2.1 6
 else
 (if decide (x2.1.2.2.2.1 > 0) then
 (if (!n3 == r4) then
 (if 0≤x2.1.2.2.2.1∧x2.1.2.2.2.1 < (↑(List.length x2.1.1):Int) then
 (Eng.asInt IntKind.i64 (Eng.getC x2.1.1 (Int.toNat x2.1.2.2.2.1) (0:Nat)) False fun n17 =>
 (if 0≤w64 (x2.1.2.2.2.1 - 1)∧w64 (x2.1.2.2.2.1 - 1) < (↑(List.length x2.1.1):Int) then
 (Eng.asInt IntKind.i64 (Eng.getC x2.1.1 (Int.toNat (w64 (x2.1.2.2.2.1 - 1))) (0:Nat)) False fun n18 =>
 (if decide (w64 (n17 - n18) < 2419199) then
 K x2.1.2.2.2.1 7
 else
 (if 0≤x2.1.2.2.2.1∧x2.1.2.2.2.1 < (↑(List.length x2.1.1):Int) then
 (Eng.asInt IntKind.i64 (Eng.getC x2.1.1 (Int.toNat x2.1.2.2.2.1) (0:Nat)) False fun n19 =>
 (if 0≤w64 (x2.1.2.2.2.1 - 1)∧w64 (x2.1.2.2.2.1 - 1) < (↑(List.length x2.1.1):Int) then
 (Eng.asInt IntKind.i64 (Eng.getC x2.1.1 (Int.toNat (w64 (x2.1.2.2.2.1 - 1))) (0:Nat)) False fun n20 =>
 (if decide (n19 < n20) then
 K x2.1.2.2.2.1 7
 else
 k1 ((x2.1.1,x2.1.2.1,x2.1.2.2.1,w64 (x2.1.2.2.2.1+1),()),())))
 else
 False))
 else
 False)))
 else
 False))
 else
 False)
 else
 (if 0≤x2.1.2.2.2.1∧x2.1.2.2.2.1 < (↑(List.length x2.1.1):Int) then
 (Eng.asInt IntKind.i64 (Eng.getC x2.1.1 (Int.toNat x2.1.2.2.2.1) (0:Nat)) False fun n21 =>
 (if 0≤w64 (x2.1.2.2.2.1 - 1)∧w64 (x2.1.2.2.2.1 - 1) < (↑(List.length x2.1.1):Int) then
 (Eng.asInt IntKind.i64 (Eng.getC x2.1.1 (Int.toNat (w64 (x2.1.2.2.2.1 - 1))) (0:Nat)) False fun n22 =>
 (if decide (n21 < n22) then
 K x2.1.2.2.2.1 7
 else
 k1 ((x2.1.1,x2.1.2.1,x2.1.2.2.1,w64 (x2.1.2.2.2.1+1),()),())))
 else
 False))
 else
 False))
 else
 k1 ((x2.1.1,x2.1.2.1,x2.1.2.2.1,w64 (x2.1.2.2.2.1+1),()),())))
 else
 K x2.1.2.2.2.1 6)
 else
 (if decide (x2.1.2.2.2.1 > 0) then
 (if (!n3 == r4) then
 (if 0≤x2.1.2.2.2.1∧x2.1.2.2.2.1 < (↑(List.length x2.1.1):Int) then
 (Eng.asInt IntKind.i64 (Eng.getC x2.1.1 (Int.toNat x2.1.2.2.2.1) (0:Nat)) False fun n23 =>
 (if 0≤w64 (x2.1.2.2.2.1 - 1)∧w64 (x2.1.2.2.2.1 - 1) < (↑(List.length x2.1.1):Int) then
 (Eng.asInt IntKind.i64 (Eng.getC x2.1.1 (Int.toNat (w64 (x2.1.2.2.2.1 - 1))) (0:Nat)) False fun n24 =>
 (if decide (w64 (n23 - n24) < 2419199) then
 K x2.1.2.2.2.1 7
 else
 (if 0≤x2.1.2.2.2.1∧x2.1.2.2.2.1 < (↑(List.length x2.1.1):Int) then
 (Eng.asInt IntKind.i64 (Eng.getC x2.1.1 (Int.toNat x2.1.2.2.2.1) (0:Nat)) False fun n25 =>
 (if 0≤w64 (x2.1.2.2.2.1 - 1)∧w64 (x2.1.2.2.2.1 - 1) < (↑(List.length x2.1.1):Int) then
 (Eng.asInt IntKind.i64 (Eng.getC x2.1.1 (Int.toNat (w64 (x2.1.2.2.2.1 - 1))) (0:Nat)) False fun n26 =>
 (if decide (n25 < n26) then
 K x2.1.2.2.2.1 7
 else
 k1 ((x2.1.1,x2.1.2.1,x2.1.2.2.1,w64 (x2.1.2.2.2.1+1),()),())))
 else
 False))
 else
 False)))
 else
 False))
 else
 False)
 else
 (if 0≤x2.1.2.2.2.1∧x2.1.2.2.2.1 < (↑(List.length x2.1.1):Int) then
 (Eng.asInt IntKind.i64 (Eng.getC x2.1.1 (Int.toNat x2.1.2.2.2.1) (0:Nat)) False fun n27 =>
 (if 0≤w64 (x2.1.2.2.2.1 - 1)∧w64 (x2.1.2.2.2.1 - 1) < (↑(List.length x2.1.1):Int) then
 (Eng.asInt IntKind.i64 (Eng.getC x2.1.1 (Int.toNat (w64 (x2.1.2.2.2.1 - 1))) (0:Nat)) False fun n28 =>
 (if decide (n27 < n28) then
 K x2.1.2.2.2.1 7
 else
 k1 ((x2.1.1,x2.1.2.1,x2.1.2.2.1,w64 (x2.1.2.2.2.1+1),()),())))
 else
 False))
 else
 False))
 else
 k1 ((x2.1.1,x2.1.2.1,x2.1.2.2.1,w64 (x2.1.2.2.2.1+1),()),())))))
 else
 False)))
 else
 (if decide (x2.1.2.2.2.1 > 200) then
 K x2.1.2.2.2.1 8
 else
 (if 0≤x2.1.2.2.2.1∧x2.1.2.2.2.1 < (↑(List.length x2.1.1):Int) then
 (Eng.asInt IntKind.i64 (Eng.getC x2.1.1 (Int.toNat x2.1.2.2.2.1) (0:Nat)) False fun n29 =>
 (if decide (n29 < 0) then
 K x2.1.2.2.2.1 9
 else
 (if (x2.1.2.2.2.1 == w64 ((↑(List.length x2.1.1):Int) - 1)) then
 (if (!n3 == r4) then
 K x2.1.2.2.2.1 6
 else
 (if decide (x2.1.2.2.2.1 > 0) then
 (if (!n3 == r4) then
 (if 0≤x2.1.2.2.2.1∧x2.1.2.2.2.1 < (↑(List.length x2.1.1):Int) then
 (Eng.asInt IntKind.i64 (Eng.getC x2.1.1 (Int.toNat x2.1.2.2.2.1) (0:Nat)) False fun n30 =>
 (if 0≤w64 (x2.1.2.2.2.1 - 1)∧w64 (x2.1.2.2.2.1 - 1) < (↑(List.length x2.1.1):Int) then
 (Eng.asInt IntKind.i64 (Eng.getC x2.1.1 (Int.toNat (w64 (x2.1.2.2.2.1 - 1))) (0:Nat)) False fun n31 =>
 (if decide (w64 (n30 - n31) < 2419199) then
 K x2.1.2.2.2.1 7
 else
 (if 0≤x2.1.2.2.2.1∧x2.1.2.2.2.1 < (↑(List.length x2.1.1):Int) then
 (Eng.asInt IntKind.i64 (Eng.getC x2.1.1 (Int.toNat x2.1.2.2.2.1) (0:Nat)) False fun n32 =>
 (if 0≤w64 (x2.1.2.2.2.1 - 1)∧w64 (x2.1.2.2.2.1 - 1) < (↑(List.length x2.1.1):Int) then
 (Eng.asInt IntKind.i64 (Eng.getC x2.1.1 (Int.toNat (w64 (x2.1.2.2.2.1 - 1))) (0:Nat)) False fun n33 =>
 (if decide (n32 < n33) then
 K x2.1.2.2.2.1 7
 else
 k1 ((x2.1.1,x2.1.2.1,x2.1.2.2.1,w64 (x2.1.2.2.2.1+1),()),())))
 else
 False))
 else
 False)))
 else
 False))
 else
 False)
 else
 (if 0≤x2.1.2.2.2.1∧x2.1.2.2.2.1 < (↑(List.length x2.1.1):Int) then
 (Eng.asInt IntKind.i64 (Eng.getC x2.1.1 (Int.toNat x2.1.2.2.2.1) (0:Nat)) False fun n34 =>
 (if 0≤w64 (x2.1.2.2.2.1 - 1)∧w64 (x2.1.2.2.2.1 - 1) < (↑(List.length x2.1.1):Int) then
 (Eng.asInt IntKind.i64 (Eng.getC x2.1.1 (Int.toNat (w64 (x2.1.2.2.2.1 - 1))) (0:Nat)) False fun n35 =>
 (if decide (n34 < n35) then
 K x2.1.2.2.2.1 7
 else
 k1 ((x2.1.1,x2.1.2.1,x2.1.2.2.1,w64 (x2.1.2.2.2.1+1),()),())))
 else
 False))
 else
 False))
 else
 k1 ((x2.1.1,x2.1.2.1,x2.1.2.2.1,w64 (x2.1.2.2.2.1+1),()),())))
 else
 K x2.1.2.2.2.1 6)))
 else
 False))))))
 else
 False)))
 else
 False)
 else
 K (↑(List.length x2.1.1):Int) 0)
def Lq19_0p:Lp:=⟨29,[.trim 29],upT116,.nil,0⟩
def Yq19 (xq11:Tq11) (xq2f:Tq2f) (a0:(List Eng.V)) (K:Int→Int→Prop):Prop :=
 lp (Lq19_0 xq11 xq2f K) ((a0,0,0,0,()),())
def Xq19:Tq19:=Yq19 Xq11 Xq2f
def Jq19 (X:Tq19):Inst:=mkI 157 upL97 .nil upL8 .nil X
def Iq19:Inst:=Jq19 Xq19
theorem Eq19 (xq11:Tq11) (xq2f:Tq2f):EqF Tryz.prog 109 gives Tryz.f157 [Jq11 xq11,Jq2f xq2f] [Lq19_0p] (Jq19 (Yq19 xq11 xq2f)):=fun x y K=>by kernel_rfl
theorem Iq19_ok:InstOk Tryz.prog G.1 Iq19:=iok (gives:=gives) [Lq19_0p] (okCons Iq11_ok (okCons Iq2f_ok okNil)) 109 follows Tryz.func157 (by kernel_rfl) (fun x=>by kernel_rfl) (Eq19 Xq11 Xq2f)
abbrev Tq18:Type:=(List Eng.V)→(Bool→Prop)→Prop
def Yq18 (xq19:Tq19) (a0:(List Eng.V)) (K:Bool→Prop):Prop :=
 xq19 a0 (fun r1 r2 =>
 K (r2 == 0))
def Xq18:Tq18:=Yq18 Xq19
def Jq18 (X:Tq18):Inst:=mkI 100 upL97 .nil upL9 .nil X
def Iq18:Inst:=Jq18 Xq18
theorem Eq18 (xq19:Tq19):EqF Tryz.prog 12 gives Tryz.f100 [Jq19 xq19] [] (Jq18 (Yq18 xq19)):=fun x y K=>by kernel_rfl
theorem Iq18_ok:InstOk Tryz.prog G.1 Iq18:=iok (gives:=gives) [] (okCons Iq19_ok okNil) 12 follows Tryz.func100 (by kernel_rfl) (fun x=>by kernel_rfl) (Eq18 Xq19)
abbrev Tq1h:Type:=(List Eng.V)→(Int→Prop)→Prop
def Yq1h (xq11:Tq11) (a0:(List Eng.V)) (K:Int→Prop):Prop :=
 (if decide ((↑(List.length a0):Int) > 0) then
 (if 0≤w64 ((↑(List.length a0):Int) - 1)∧w64 ((↑(List.length a0):Int) - 1) < (↑(List.length a0):Int) then
 (Eng.asInt IntKind.i64 (Eng.getC a0 (Int.toNat (w64 ((↑(List.length a0):Int) - 1))) (1:Nat)) False fun n1 =>
 xq11 a0 (w64 ((↑(List.length a0):Int) - 1)) (fun r2 =>
 (if (n1 == r2) then
 K (w64 ((↑(List.length a0):Int) - 1))
 else
 K (↑(List.length a0):Int))))
 else
 False)
 else
 K (↑(List.length a0):Int))
def Xq1h:Tq1h:=Yq1h Xq11
def Jq1h (X:Tq1h):Inst:=mkI 158 upL97 .nil upL2 .nil X
def Iq1h:Inst:=Jq1h Xq1h
theorem Eq1h (xq11:Tq11):EqF Tryz.prog 24 gives Tryz.f158 [Jq11 xq11] [] (Jq1h (Yq1h xq11)):=fun x y K=>by kernel_rfl
theorem Iq1h_ok:InstOk Tryz.prog G.1 Iq1h:=iok (gives:=gives) [] (okCons Iq11_ok okNil) 24 follows Tryz.func158 (by kernel_rfl) (fun x=>by kernel_rfl) (Eq1h Xq11)
abbrev Tq0m:Type:=(List Eng.V)→(Int→Bool→Prop)→Prop
def Yq0m (xq1h:Tq1h) (a0:(List Eng.V)) (K:Int→Bool→Prop):Prop :=
 xq1h a0 (fun r1 =>
 (if (r1 == (↑(List.length a0):Int)) then
 K 0 false
 else
 (if 0≤r1∧r1 < (↑(List.length a0):Int) then
 (Eng.asInt IntKind.i64 (Eng.getC a0 (Int.toNat r1) (0:Nat)) False fun n2 =>
 K n2 true)
 else
 False)))
def Xq0m:Tq0m:=Yq0m Xq1h
def Jq0m (X:Tq0m):Inst:=mkI 101 upL97 .nil upL114 .nil X
def Iq0m:Inst:=Jq0m Xq0m
theorem Eq0m (xq1h:Tq1h):EqF Tryz.prog 16 gives Tryz.f101 [Jq1h xq1h] [] (Jq0m (Yq0m xq1h)):=fun x y K=>by kernel_rfl
theorem Iq0m_ok:InstOk Tryz.prog G.1 Iq0m:=iok (gives:=gives) [] (okCons Iq1h_ok okNil) 16 follows Tryz.func101 (by kernel_rfl) (fun x=>by kernel_rfl) (Eq0m Xq1h)
abbrev Tq2d:Type:=ByteArray→ByteArray→(ByteArray→ByteArray→Bool→Prop)→Prop
def Lq2d_0 (K:ByteArray→ByteArray→Bool→Prop):(uQ117→Prop)→uQ117→Prop:=fun k2 x3 =>
 (if decide (w64 (x3.1.2.2.2.2.2.1+(↑(ByteArray.size x3.1.2.1):Int))≤(↑(ByteArray.size x3.1.1):Int)) then
 (if (!ByteArray.toList x3.1.2.1 == ByteArray.toList (ByteArray.mk #[])) then
 (if 0≤w64 (x3.1.2.2.2.2.2.1+(↑(ByteArray.size x3.1.2.1):Int))∧w64 (x3.1.2.2.2.2.2.1+(↑(ByteArray.size x3.1.2.1):Int))≤(↑(ByteArray.size x3.1.1):Int) then
 (if 0≤x3.1.2.2.2.2.2.1∧x3.1.2.2.2.2.2.1≤w64 (x3.1.2.2.2.2.2.1+(↑(ByteArray.size x3.1.2.1):Int)) then
 (lt (ByteArray.extract x3.1.1 (Int.toNat x3.1.2.2.2.2.2.1) (Int.toNat (w64 (x3.1.2.2.2.2.2.1+(↑(ByteArray.size x3.1.2.1):Int))))) fun v4 =>
 (if (ByteArray.toList v4 == ByteArray.toList x3.1.2.1) then
 (if 0≤x3.1.2.2.2.2.2.1∧x3.1.2.2.2.2.2.1≤(↑(ByteArray.size x3.1.1):Int) then
 (if (0 :Int)≤0∧0≤x3.1.2.2.2.2.2.1 then
 (if 0≤(↑(ByteArray.size x3.1.1):Int)∧(↑(ByteArray.size x3.1.1):Int)≤(↑(ByteArray.size x3.1.1):Int) then
 (if 0≤w64 (x3.1.2.2.2.2.2.1+(↑(ByteArray.size x3.1.2.1):Int))∧w64 (x3.1.2.2.2.2.2.1+(↑(ByteArray.size x3.1.2.1):Int))≤(↑(ByteArray.size x3.1.1):Int) then
 (lt (ByteArray.extract x3.1.1 (Int.toNat (w64 (x3.1.2.2.2.2.2.1+(↑(ByteArray.size x3.1.2.1):Int)))) (Int.toNat (↑(ByteArray.size x3.1.1):Int))) fun v5 =>
 K (ByteArray.extract x3.1.1 (0:Nat) (Int.toNat x3.1.2.2.2.2.2.1)) v5 true)
 else
 False)
 else
 False)
 else
 False)
 else
 False)
 else
 k2 ((x3.1.1,x3.1.2.1,x3.1.2.2.1,x3.1.2.2.2.1,x3.1.2.2.2.2.1,w64 (x3.1.2.2.2.2.2.1+1),()),())))
 else
 False)
 else
 False)
 else
 K x3.1.1 (ByteArray.mk #[]) false)
 else
 K x3.1.1 (ByteArray.mk #[]) false)
def Lq2d_0p:Lp:=⟨243,[.trim 243],upT118,.nil,0⟩
def Yq2d (a0:ByteArray) (a1:ByteArray) (K:ByteArray→ByteArray→Bool→Prop):Prop :=
 lp (Lq2d_0 K) ((a0,a1,ByteArray.mk #[],ByteArray.mk #[],false,0,()),())
def Xq2d:Tq2d:=Yq2d
def Jq2d (X:Tq2d):Inst:=mkI 197 upL81 .nil upL119 .nil X
def Iq2d:Inst:=Jq2d Xq2d
theorem Eq2d:EqF Tryz.prog 40 gives Tryz.f197 [] [Lq2d_0p] (Jq2d (Yq2d)):=fun x y K=>by kernel_rfl
theorem Iq2d_ok:InstOk Tryz.prog G.1 Iq2d:=iok (gives:=gives) [Lq2d_0p] okNil 40 follows Tryz.func197 (by kernel_rfl) (fun x=>by kernel_rfl) (Eq2d)
abbrev Tq0l:Type:=Int→(Bool→Prop)→Prop
def Yq0l (a0:Int) (K:Bool→Prop):Prop :=
 (if decide (a0≥97) then
 (if decide (a0≤122) then
 K true
 else
 (if decide (a0≥65) then
 K (decide (a0≤90))
 else
 K false))
 else
 (if decide (a0≥65) then
 K (decide (a0≤90))
 else
 K false))
def Xq0l:Tq0l:=Yq0l
def Jq0l (X:Tq0l):Inst:=mkI 198 upL24 .nil upL9 .nil X
def Iq0l:Inst:=Jq0l Xq0l
theorem Eq0l:EqF Tryz.prog 17 gives Tryz.f198 [] [] (Jq0l (Yq0l)):=fun x y K=>by kernel_rfl
theorem Iq0l_ok:InstOk Tryz.prog G.1 Iq0l:=iok (gives:=gives) [] okNil 17 follows Tryz.func198 (by kernel_rfl) (fun x=>by kernel_rfl) (Eq0l)
abbrev Tq1z:Type:=ByteArray→(ByteArray→ByteArray→Bool→Prop)→Prop
def Lq1z_0 (xq0l:Tq0l) (xq1b:Tq1b) (K:ByteArray→ByteArray→Bool→Prop):(uQ120→Prop)→uQ120→Prop:=fun k5 x6 =>
 (if decide (x6.1.2.2.2.2.1 < (↑(ByteArray.size x6.1.1):Int)) then
 (if 0≤x6.1.2.2.2.2.1∧x6.1.2.2.2.2.1 < (↑(ByteArray.size x6.1.1):Int) then
 xq0l (Eng.bAt x6.1.1 (Int.toNat x6.1.2.2.2.2.1)) (fun r7 =>
 (if r7 then
 k5 ((x6.1.1,x6.1.2.1,x6.1.2.2.1,x6.1.2.2.2.1,w64 (x6.1.2.2.2.2.1+1),()),())
 else
 (if 0≤x6.1.2.2.2.2.1∧x6.1.2.2.2.2.1≤(↑(ByteArray.size x6.1.1):Int) then
 (if (0 :Int)≤0∧0≤x6.1.2.2.2.2.1 then
 xq1b (ByteArray.extract x6.1.1 (0:Nat) (Int.toNat x6.1.2.2.2.2.1)) (fun r8 =>
 (if 0≤x6.1.2.2.2.2.1∧x6.1.2.2.2.2.1≤(↑(ByteArray.size x6.1.1):Int) then
 (if (0 :Int)≤0∧0≤x6.1.2.2.2.2.1 then
 (if 0≤(↑(ByteArray.size x6.1.1):Int)∧(↑(ByteArray.size x6.1.1):Int)≤(↑(ByteArray.size x6.1.1):Int) then
 (if 0≤x6.1.2.2.2.2.1∧x6.1.2.2.2.2.1≤(↑(ByteArray.size x6.1.1):Int) then
 K (ByteArray.extract x6.1.1 (0:Nat) (Int.toNat x6.1.2.2.2.2.1)) (ByteArray.extract x6.1.1 (Int.toNat x6.1.2.2.2.2.1) (Int.toNat (↑(ByteArray.size x6.1.1):Int))) r8
 else
 False)
 else
 False)
 else
 False)
 else
 False))
 else
 False)
 else
 False)))
 else
 False)
 else
 (if 0≤x6.1.2.2.2.2.1∧x6.1.2.2.2.2.1≤(↑(ByteArray.size x6.1.1):Int) then
 (if (0 :Int)≤0∧0≤x6.1.2.2.2.2.1 then
 xq1b (ByteArray.extract x6.1.1 (0:Nat) (Int.toNat x6.1.2.2.2.2.1)) (fun r9 =>
 (if 0≤x6.1.2.2.2.2.1∧x6.1.2.2.2.2.1≤(↑(ByteArray.size x6.1.1):Int) then
 (if (0 :Int)≤0∧0≤x6.1.2.2.2.2.1 then
 (if 0≤(↑(ByteArray.size x6.1.1):Int)∧(↑(ByteArray.size x6.1.1):Int)≤(↑(ByteArray.size x6.1.1):Int) then
 (if 0≤x6.1.2.2.2.2.1∧x6.1.2.2.2.2.1≤(↑(ByteArray.size x6.1.1):Int) then
 K (ByteArray.extract x6.1.1 (0:Nat) (Int.toNat x6.1.2.2.2.2.1)) (ByteArray.extract x6.1.1 (Int.toNat x6.1.2.2.2.2.1) (Int.toNat (↑(ByteArray.size x6.1.1):Int))) r9
 else
 False)
 else
 False)
 else
 False)
 else
 False))
 else
 False)
 else
 False))
def Lq1z_0p:Lp:=⟨541,[.trim 541],upT121,.nil,0⟩
def Yq1z (xq2d:Tq2d) (xq1b:Tq1b) (xq0l:Tq0l) (a0:ByteArray) (K:ByteArray→ByteArray→Bool→Prop):Prop :=
 (if decide ((↑(ByteArray.size a0):Int) > 0) then
 (if (0 :Int)≤0∧0 < (↑(ByteArray.size a0):Int) then
 (if (Eng.bAt a0 (0:Nat) == 60) then
 (if 0≤(↑(ByteArray.size a0):Int)∧(↑(ByteArray.size a0):Int)≤(↑(ByteArray.size a0):Int) then
 (if (0 :Int)≤1∧1≤(↑(ByteArray.size a0):Int) then
 xq2d (ByteArray.extract a0 (1:Nat) (Int.toNat (↑(ByteArray.size a0):Int))) (ByteArray.mk #[(62:UInt8)]) (fun r1 r2 r3 =>
 xq1b r1 (fun r4 =>
 (if r3 then
 K r1 r2 r4
 else
 K r1 r2 false)))
 else
 False)
 else
 False)
 else
 lp (Lq1z_0 xq0l xq1b K) ((a0,ByteArray.mk #[],ByteArray.mk #[],false,0,()),()))
 else
 False)
 else
 lp (Lq1z_0 xq0l xq1b K) ((a0,ByteArray.mk #[],ByteArray.mk #[],false,0,()),()))
def Xq1z:Tq1z:=Yq1z Xq2d Xq1b Xq0l
def Jq1z (X:Tq1z):Inst:=mkI 159 upL106 .nil upL119 .nil X
def Iq1z:Inst:=Jq1z Xq1z
theorem Eq1z (xq2d:Tq2d) (xq1b:Tq1b) (xq0l:Tq0l):EqF Tryz.prog 57 gives Tryz.f159 [Jq2d xq2d,Jq1b xq1b,Jq0l xq0l] [Lq1z_0p] (Jq1z (Yq1z xq2d xq1b xq0l)):=fun x y K=>by kernel_rfl
theorem Iq1z_ok:InstOk Tryz.prog G.1 Iq1z:=iok (gives:=gives) [Lq1z_0p] (okCons Iq2d_ok (okCons Iq1b_ok (okCons Iq0l_ok okNil))) 57 follows Tryz.func159 (by kernel_rfl) (fun x=>by kernel_rfl) (Eq1z Xq2d Xq1b Xq0l)
abbrev Tq28:Type:=ByteArray→(Int→ByteArray→Prop)→Prop
def Yq28 (a0:ByteArray) (K:Int→ByteArray→Prop):Prop :=
 (if decide ((↑(ByteArray.size a0):Int) < 3) then
 K (-1) a0
 else
 (if (0 :Int)≤0∧0 < (↑(ByteArray.size a0):Int) then
 (if (Eng.bAt a0 (0:Nat) != 58) then
 K (-1) a0
 else
 (if (0 :Int)≤1∧1 < (↑(ByteArray.size a0):Int) then
 (if decide (Eng.bAt a0 (1:Nat) < 48) then
 K (-1) a0
 else
 (if (0 :Int)≤1∧1 < (↑(ByteArray.size a0):Int) then
 (if decide (Eng.bAt a0 (1:Nat) > 53) then
 K (-1) a0
 else
 (if (0 :Int)≤2∧2 < (↑(ByteArray.size a0):Int) then
 (if decide (Eng.bAt a0 (2:Nat) < 48) then
 K (-1) a0
 else
 (if (0 :Int)≤2∧2 < (↑(ByteArray.size a0):Int) then
 (if decide (Eng.bAt a0 (2:Nat) > 57) then
 K (-1) a0
 else
 (if (0 :Int)≤1∧1 < (↑(ByteArray.size a0):Int) then
 (lt (w64 (wu8 (Eng.bAt a0 (1:Nat) - 48))) fun v1 =>
 (if (0 :Int)≤2∧2 < (↑(ByteArray.size a0):Int) then
 (lt (w64 (wu8 (Eng.bAt a0 (2:Nat) - 48))) fun v2 =>
 (lt (w64 (w64 (10 * v1)+v2)) fun v3 =>
 (if 0≤(↑(ByteArray.size a0):Int)∧(↑(ByteArray.size a0):Int)≤(↑(ByteArray.size a0):Int) then
 (if (0 :Int)≤3∧3≤(↑(ByteArray.size a0):Int) then
 K v3 (ByteArray.extract a0 (3:Nat) (Int.toNat (↑(ByteArray.size a0):Int)))
 else
 False)
 else
 False)))
 else
 False))
 else
 False))
 else
 False))
 else
 False))
 else
 False))
 else
 False))
 else
 False))
def Xq28:Tq28:=Yq28
def Jq28 (X:Tq28):Inst:=mkI 199 upL106 .nil upL122 .nil X
def Iq28:Inst:=Jq28 Xq28
theorem Eq28:EqF Tryz.prog 45 gives Tryz.f199 [] [] (Jq28 (Yq28)):=fun x y K=>by kernel_rfl
theorem Iq28_ok:InstOk Tryz.prog G.1 Iq28:=iok (gives:=gives) [] okNil 45 follows Tryz.func199 (by kernel_rfl) (fun x=>by kernel_rfl) (Eq28)
abbrev Tq21:Type:=ByteArray→(Int→ByteArray→Bool→Prop)→Prop
def Lq21_0 (xq28:Tq28) (K:Int→ByteArray→Bool→Prop):(uQ123→Prop)→uQ123→Prop:=fun k1 x2 =>
 (if decide (x2.1.2.2.2.2.2.2.1 < (↑(ByteArray.size x2.1.2.2.2.2.1):Int)) then
 (if decide (x2.1.2.2.2.2.2.2.1 < 3) then
 (if 0≤x2.1.2.2.2.2.2.2.1∧x2.1.2.2.2.2.2.2.1 < (↑(ByteArray.size x2.1.2.2.2.2.1):Int) then
 (if decide (Eng.bAt x2.1.2.2.2.2.1 (Int.toNat x2.1.2.2.2.2.2.2.1)≥48) then
 (if 0≤x2.1.2.2.2.2.2.2.1∧x2.1.2.2.2.2.2.2.1 < (↑(ByteArray.size x2.1.2.2.2.2.1):Int) then
 (if decide (Eng.bAt x2.1.2.2.2.2.1 (Int.toNat x2.1.2.2.2.2.2.2.1)≤57) then
 (if 0≤x2.1.2.2.2.2.2.2.1∧x2.1.2.2.2.2.2.2.1 < (↑(ByteArray.size x2.1.2.2.2.2.1):Int) then
 (lt (w64 (wu8 (Eng.bAt x2.1.2.2.2.2.1 (Int.toNat x2.1.2.2.2.2.2.2.1) - 48))) fun v3 =>
 (lt (w64 (w64 (10 * x2.1.2.2.2.2.2.2.2.1)+v3)) fun v4 =>
 (if decide (v4≤167) then
 (if 0≤x2.1.2.2.2.2.2.2.1∧x2.1.2.2.2.2.2.2.1 < (↑(ByteArray.size x2.1.2.2.2.2.1):Int) then
 (lt (w64 (wu8 (Eng.bAt x2.1.2.2.2.2.1 (Int.toNat x2.1.2.2.2.2.2.2.1) - 48))) fun v5 =>
 (lt (w64 (w64 (10 * x2.1.2.2.2.2.2.2.2.1)+v5)) fun v6 =>
 k1 ((x2.1.1,x2.1.2.1,x2.1.2.2.1,x2.1.2.2.2.1,x2.1.2.2.2.2.1,x2.1.2.2.2.2.2.1,w64 (x2.1.2.2.2.2.2.2.1+1),v6,()),())))
 else
 False)
 else
 (if (x2.1.2.2.2.2.2.2.1 == 0) then
 K 0 x2.1.1 false
 else
 (if 0≤(↑(ByteArray.size x2.1.2.2.2.2.1):Int)∧(↑(ByteArray.size x2.1.2.2.2.2.1):Int)≤(↑(ByteArray.size x2.1.2.2.2.2.1):Int) then
 (if 0≤x2.1.2.2.2.2.2.2.1∧x2.1.2.2.2.2.2.2.1≤(↑(ByteArray.size x2.1.2.2.2.2.1):Int) then
 xq28 (ByteArray.extract x2.1.2.2.2.2.1 (Int.toNat x2.1.2.2.2.2.2.2.1) (Int.toNat (↑(ByteArray.size x2.1.2.2.2.2.1):Int))) (fun r7 r8 =>
 (if decide (r7 < 0) then
 (lt (w64 (w64 (x2.1.2.2.2.2.2.1 * 3600) * x2.1.2.2.2.2.2.2.2.1)) fun v9 =>
 K v9 (ByteArray.extract x2.1.2.2.2.2.1 (Int.toNat x2.1.2.2.2.2.2.2.1) (Int.toNat (↑(ByteArray.size x2.1.2.2.2.2.1):Int))) true)
 else
 xq28 r8 (fun r10 r11 =>
 (if decide (r10 < 0) then
 (lt (w64 (w64 (3600 * x2.1.2.2.2.2.2.2.2.1)+w64 (60 * r7))) fun v12 =>
 K (w64 (x2.1.2.2.2.2.2.1 * v12)) r8 true)
 else
 (lt (w64 (w64 (3600 * x2.1.2.2.2.2.2.2.2.1)+w64 (60 * r7))) fun v13 =>
 (lt (w64 (x2.1.2.2.2.2.2.1 * w64 (v13+r10))) fun v14 =>
 K v14 r11 true))))))
 else
 False)
 else
 False)))))
 else
 False)
 else
 (if (x2.1.2.2.2.2.2.2.1 == 0) then
 K 0 x2.1.1 false
 else
 (if 0≤(↑(ByteArray.size x2.1.2.2.2.2.1):Int)∧(↑(ByteArray.size x2.1.2.2.2.2.1):Int)≤(↑(ByteArray.size x2.1.2.2.2.2.1):Int) then
 (if 0≤x2.1.2.2.2.2.2.2.1∧x2.1.2.2.2.2.2.2.1≤(↑(ByteArray.size x2.1.2.2.2.2.1):Int) then
 xq28 (ByteArray.extract x2.1.2.2.2.2.1 (Int.toNat x2.1.2.2.2.2.2.2.1) (Int.toNat (↑(ByteArray.size x2.1.2.2.2.2.1):Int))) (fun r15 r16 =>
 (if decide (r15 < 0) then
 (lt (w64 (w64 (x2.1.2.2.2.2.2.1 * 3600) * x2.1.2.2.2.2.2.2.2.1)) fun v17 =>
 K v17 (ByteArray.extract x2.1.2.2.2.2.1 (Int.toNat x2.1.2.2.2.2.2.2.1) (Int.toNat (↑(ByteArray.size x2.1.2.2.2.2.1):Int))) true)
 else
 xq28 r16 (fun r18 r19 =>
 (if decide (r18 < 0) then
 (lt (w64 (w64 (3600 * x2.1.2.2.2.2.2.2.2.1)+w64 (60 * r15))) fun v20 =>
 K (w64 (x2.1.2.2.2.2.2.1 * v20)) r16 true)
 else
 (lt (w64 (w64 (3600 * x2.1.2.2.2.2.2.2.2.1)+w64 (60 * r15))) fun v21 =>
 (lt (w64 (x2.1.2.2.2.2.2.1 * w64 (v21+r18))) fun v22 =>
 K v22 r19 true))))))
 else
 False)
 else
 False)))
 else
 False)
 else
 (if (x2.1.2.2.2.2.2.2.1 == 0) then
 K 0 x2.1.1 false
 else
 (if 0≤(↑(ByteArray.size x2.1.2.2.2.2.1):Int)∧(↑(ByteArray.size x2.1.2.2.2.2.1):Int)≤(↑(ByteArray.size x2.1.2.2.2.2.1):Int) then
 (if 0≤x2.1.2.2.2.2.2.2.1∧x2.1.2.2.2.2.2.2.1≤(↑(ByteArray.size x2.1.2.2.2.2.1):Int) then
 xq28 (ByteArray.extract x2.1.2.2.2.2.1 (Int.toNat x2.1.2.2.2.2.2.2.1) (Int.toNat (↑(ByteArray.size x2.1.2.2.2.2.1):Int))) (fun r23 r24 =>
 (if decide (r23 < 0) then
 (lt (w64 (w64 (x2.1.2.2.2.2.2.1 * 3600) * x2.1.2.2.2.2.2.2.2.1)) fun v25 =>
 K v25 (ByteArray.extract x2.1.2.2.2.2.1 (Int.toNat x2.1.2.2.2.2.2.2.1) (Int.toNat (↑(ByteArray.size x2.1.2.2.2.2.1):Int))) true)
 else
 xq28 r24 (fun r26 r27 =>
 (if decide (r26 < 0) then
 (lt (w64 (w64 (3600 * x2.1.2.2.2.2.2.2.2.1)+w64 (60 * r23))) fun v28 =>
 K (w64 (x2.1.2.2.2.2.2.1 * v28)) r24 true)
 else
 (lt (w64 (w64 (3600 * x2.1.2.2.2.2.2.2.2.1)+w64 (60 * r23))) fun v29 =>
 (lt (w64 (x2.1.2.2.2.2.2.1 * w64 (v29+r26))) fun v30 =>
 K v30 r27 true))))))
 else
 False)
 else
 False)))
 else
 False)
 else
 (if (x2.1.2.2.2.2.2.2.1 == 0) then
 K 0 x2.1.1 false
 else
 (if 0≤(↑(ByteArray.size x2.1.2.2.2.2.1):Int)∧(↑(ByteArray.size x2.1.2.2.2.2.1):Int)≤(↑(ByteArray.size x2.1.2.2.2.2.1):Int) then
 (if 0≤x2.1.2.2.2.2.2.2.1∧x2.1.2.2.2.2.2.2.1≤(↑(ByteArray.size x2.1.2.2.2.2.1):Int) then
 xq28 (ByteArray.extract x2.1.2.2.2.2.1 (Int.toNat x2.1.2.2.2.2.2.2.1) (Int.toNat (↑(ByteArray.size x2.1.2.2.2.2.1):Int))) (fun r31 r32 =>
 (if decide (r31 < 0) then
 (lt (w64 (w64 (x2.1.2.2.2.2.2.1 * 3600) * x2.1.2.2.2.2.2.2.2.1)) fun v33 =>
 K v33 (ByteArray.extract x2.1.2.2.2.2.1 (Int.toNat x2.1.2.2.2.2.2.2.1) (Int.toNat (↑(ByteArray.size x2.1.2.2.2.2.1):Int))) true)
 else
 xq28 r32 (fun r34 r35 =>
 (if decide (r34 < 0) then
 (lt (w64 (w64 (3600 * x2.1.2.2.2.2.2.2.2.1)+w64 (60 * r31))) fun v36 =>
 K (w64 (x2.1.2.2.2.2.2.1 * v36)) r32 true)
 else
 (lt (w64 (w64 (3600 * x2.1.2.2.2.2.2.2.2.1)+w64 (60 * r31))) fun v37 =>
 (lt (w64 (x2.1.2.2.2.2.2.1 * w64 (v37+r34))) fun v38 =>
 K v38 r35 true))))))
 else
 False)
 else
 False)))
 else
 (if (x2.1.2.2.2.2.2.2.1 == 0) then
 K 0 x2.1.1 false
 else
 (if 0≤(↑(ByteArray.size x2.1.2.2.2.2.1):Int)∧(↑(ByteArray.size x2.1.2.2.2.2.1):Int)≤(↑(ByteArray.size x2.1.2.2.2.2.1):Int) then
 (if 0≤x2.1.2.2.2.2.2.2.1∧x2.1.2.2.2.2.2.2.1≤(↑(ByteArray.size x2.1.2.2.2.2.1):Int) then
 xq28 (ByteArray.extract x2.1.2.2.2.2.1 (Int.toNat x2.1.2.2.2.2.2.2.1) (Int.toNat (↑(ByteArray.size x2.1.2.2.2.2.1):Int))) (fun r39 r40 =>
 (if decide (r39 < 0) then
 (lt (w64 (w64 (x2.1.2.2.2.2.2.1 * 3600) * x2.1.2.2.2.2.2.2.2.1)) fun v41 =>
 K v41 (ByteArray.extract x2.1.2.2.2.2.1 (Int.toNat x2.1.2.2.2.2.2.2.1) (Int.toNat (↑(ByteArray.size x2.1.2.2.2.2.1):Int))) true)
 else
 xq28 r40 (fun r42 r43 =>
 (if decide (r42 < 0) then
 (lt (w64 (w64 (3600 * x2.1.2.2.2.2.2.2.2.1)+w64 (60 * r39))) fun v44 =>
 K (w64 (x2.1.2.2.2.2.2.1 * v44)) r40 true)
 else
 (lt (w64 (w64 (3600 * x2.1.2.2.2.2.2.2.2.1)+w64 (60 * r39))) fun v45 =>
 (lt (w64 (x2.1.2.2.2.2.2.1 * w64 (v45+r42))) fun v46 =>
 K v46 r43 true))))))
 else
 False)
 else
 False)))
def Lq21_0p:Lp:=⟨509,[.trim 509],upT124,.nil,0⟩
def Yq21 (xq28:Tq28) (a0:ByteArray) (K:Int→ByteArray→Bool→Prop):Prop :=
 (if decide ((↑(ByteArray.size a0):Int) > 0) then
 (if (0 :Int)≤0∧0 < (↑(ByteArray.size a0):Int) then
 (if (Eng.bAt a0 (0:Nat) == 45) then
 (if (0 :Int)≤0∧0 < (↑(ByteArray.size a0):Int) then
 (if (Eng.bAt a0 (0:Nat) == 45) then
 (if 0≤(↑(ByteArray.size a0):Int)∧(↑(ByteArray.size a0):Int)≤(↑(ByteArray.size a0):Int) then
 (if (0 :Int)≤1∧1≤(↑(ByteArray.size a0):Int) then
 lp (Lq21_0 xq28 K) ((a0,0,ByteArray.mk #[],false,ByteArray.extract a0 (1:Nat) (Int.toNat (↑(ByteArray.size a0):Int)),(-1),0,0,()),())
 else
 False)
 else
 False)
 else
 (if 0≤(↑(ByteArray.size a0):Int)∧(↑(ByteArray.size a0):Int)≤(↑(ByteArray.size a0):Int) then
 (if (0 :Int)≤1∧1≤(↑(ByteArray.size a0):Int) then
 lp (Lq21_0 xq28 K) ((a0,0,ByteArray.mk #[],false,ByteArray.extract a0 (1:Nat) (Int.toNat (↑(ByteArray.size a0):Int)),1,0,0,()),())
 else
 False)
 else
 False))
 else
 False)
 else
 (if (0 :Int)≤0∧0 < (↑(ByteArray.size a0):Int) then
 (if (Eng.bAt a0 (0:Nat) == 43) then
 (if (0 :Int)≤0∧0 < (↑(ByteArray.size a0):Int) then
 (if (Eng.bAt a0 (0:Nat) == 45) then
 (if 0≤(↑(ByteArray.size a0):Int)∧(↑(ByteArray.size a0):Int)≤(↑(ByteArray.size a0):Int) then
 (if (0 :Int)≤1∧1≤(↑(ByteArray.size a0):Int) then
 lp (Lq21_0 xq28 K) ((a0,0,ByteArray.mk #[],false,ByteArray.extract a0 (1:Nat) (Int.toNat (↑(ByteArray.size a0):Int)),(-1),0,0,()),())
 else
 False)
 else
 False)
 else
 (if 0≤(↑(ByteArray.size a0):Int)∧(↑(ByteArray.size a0):Int)≤(↑(ByteArray.size a0):Int) then
 (if (0 :Int)≤1∧1≤(↑(ByteArray.size a0):Int) then
 lp (Lq21_0 xq28 K) ((a0,0,ByteArray.mk #[],false,ByteArray.extract a0 (1:Nat) (Int.toNat (↑(ByteArray.size a0):Int)),1,0,0,()),())
 else
 False)
 else
 False))
 else
 False)
 else
 lp (Lq21_0 xq28 K) ((a0,0,ByteArray.mk #[],false,a0,1,0,0,()),()))
 else
 False))
 else
 False)
 else
 lp (Lq21_0 xq28 K) ((a0,0,ByteArray.mk #[],false,a0,1,0,0,()),()))
def Xq21:Tq21:=Yq21 Xq28
def Jq21 (X:Tq21):Inst:=mkI 160 upL106 .nil upL125 .nil X
def Iq21:Inst:=Jq21 Xq21
theorem Eq21 (xq28:Tq28):EqF Tryz.prog 116 gives Tryz.f160 [Jq28 xq28] [Lq21_0p] (Jq21 (Yq21 xq28)):=fun x y K=>by kernel_rfl
theorem Iq21_ok:InstOk Tryz.prog G.1 Iq21:=iok (gives:=gives) [Lq21_0p] (okCons Iq28_ok okNil) 116 follows Tryz.func160 (by kernel_rfl) (fun x=>by kernel_rfl) (Eq21 Xq28)
abbrev Tq1r:Type:=uQ126→Bool→(Bool→Prop)→Prop
def Yq1r (xq1b:Tq1b) (a0:uQ126) (a1:Bool) (K:Bool→Prop):Prop :=
 xq1b a0.2.2.1 (fun r2 =>
 (if r2 then
 (if (a0.2.1 == a1) then
 (if decide (a0.1≥(-89999)) then
 K (decide (a0.1≤89999))
 else
 K false)
 else
 K false)
 else
 K false))
def Xq1r:Tq1r:=Yq1r Xq1b
def Jq1r (X:Tq1r):Inst:=mkI 225 upL127 .nil upL9 .nil X
def Iq1r:Inst:=Jq1r Xq1r
theorem Eq1r (xq1b:Tq1b):EqF Tryz.prog 26 gives Tryz.f225 [Jq1b xq1b] [] (Jq1r (Yq1r xq1b)):=fun x y K=>by kernel_rfl
theorem Iq1r_ok:InstOk Tryz.prog G.1 Iq1r:=iok (gives:=gives) [] (okCons Iq1b_ok okNil) 26 follows Tryz.func225 (by kernel_rfl) (fun x=>by kernel_rfl) (Eq1r Xq1b)
abbrev Tq1e:Type:=uQ128→(Bool→Prop)→Prop
def Yq1e (a0:uQ128) (K:Bool→Prop):Prop :=
 (if decide (a0.2.2.2.2.1 < (-604799)) then
 K false
 else
 (if decide (a0.2.2.2.2.1 > 604799) then
 K false
 else
 (if (a0.1 == 0) then
 (if decide (a0.2.1≥1) then
 (if decide (a0.2.1≤12) then
 (if decide (a0.2.2.1≥1) then
 (if decide (a0.2.2.1≤5) then
 (if decide (a0.2.2.2.1≥0) then
 K (decide (a0.2.2.2.1≤6))
 else
 K false)
 else
 K false)
 else
 K false)
 else
 K false)
 else
 K false)
 else
 (if (a0.1 == 1) then
 (if decide (a0.2.1≥1) then
 (if decide (a0.2.1≤365) then
 (if (a0.2.2.1 == 0) then
 K (a0.2.2.2.1 == 0)
 else
 K false)
 else
 K false)
 else
 K false)
 else
 (if (a0.1 == 2) then
 (if decide (a0.2.1≥0) then
 (if decide (a0.2.1≤365) then
 (if (a0.2.2.1 == 0) then
 K (a0.2.2.2.1 == 0)
 else
 K false)
 else
 K false)
 else
 K false)
 else
 K false)))))
def Xq1e:Tq1e:=Yq1e
def Jq1e (X:Tq1e):Inst:=mkI 202 upL129 .nil upL9 .nil X
def Iq1e:Inst:=Jq1e Xq1e
theorem Eq1e:EqF Tryz.prog 83 gives Tryz.f202 [] [] (Jq1e (Yq1e)):=fun x y K=>by kernel_rfl
theorem Iq1e_ok:InstOk Tryz.prog G.1 Iq1e:=iok (gives:=gives) [] okNil 83 follows Tryz.func202 (by kernel_rfl) (fun x=>by kernel_rfl) (Eq1e)
abbrev Tq0v:Type:=uQ130→(Bool→Prop)→Prop
def Yq0v (xq1r:Tq1r) (xq1e:Tq1e) (a0:uQ130) (K:Bool→Prop):Prop :=
 (if (!a0.2.2.2.2.2.2.1) then
 xq1r (a0.1,a0.2.1,a0.2.2.1,()) false (fun r1 =>
 (if r1 then
 (lt (a0.2.2.2.1 == 0 && (a0.2.2.2.2.1 == false && (ByteArray.toList a0.2.2.2.2.2.1 == ByteArray.toList (ByteArray.mk #[]) && true))) fun v2 =>
 (if v2 then
 (lt (a0.2.2.2.2.2.2.2.1 == 0 && (a0.2.2.2.2.2.2.2.2.1 == 0 && (a0.2.2.2.2.2.2.2.2.2.1 == 0 && (a0.2.2.2.2.2.2.2.2.2.2.1 == 0 && (a0.2.2.2.2.2.2.2.2.2.2.2.1 == 0 && true))))) fun v3 =>
 (if v3 then
 (lt (a0.2.2.2.2.2.2.2.2.2.2.2.2.1 == 0 && (a0.2.2.2.2.2.2.2.2.2.2.2.2.2.1 == 0 && (a0.2.2.2.2.2.2.2.2.2.2.2.2.2.2.1 == 0 && (a0.2.2.2.2.2.2.2.2.2.2.2.2.2.2.2.1 == 0 && (a0.2.2.2.2.2.2.2.2.2.2.2.2.2.2.2.2.1 == 0 && true))))) fun v4 =>
 K v4)
 else
 K false))
 else
 K false))
 else
 K false))
 else
 xq1e (a0.2.2.2.2.2.2.2.1,a0.2.2.2.2.2.2.2.2.1,a0.2.2.2.2.2.2.2.2.2.1,a0.2.2.2.2.2.2.2.2.2.2.1,a0.2.2.2.2.2.2.2.2.2.2.2.1,()) (fun r5 =>
 xq1e a0.2.2.2.2.2.2.2.2.2.2.2.2 (fun r6 =>
 (if r5 then
 (if r6 then
 xq1r (a0.1,a0.2.1,a0.2.2.1,()) false (fun r7 =>
 (if r7 then
 xq1r (a0.2.2.2.1,a0.2.2.2.2.1,a0.2.2.2.2.2.1,()) true (fun r8 =>
 K r8)
 else
 K false))
 else
 K false)
 else
 K false))))
def Xq0v:Tq0v:=Yq0v Xq1r Xq1e
def Jq0v (X:Tq0v):Inst:=mkI 200 upL131 .nil upL9 .nil X
def Iq0v:Inst:=Jq0v Xq0v
theorem Eq0v (xq1r:Tq1r) (xq1e:Tq1e):EqF Tryz.prog 53 gives Tryz.f200 [Jq1r xq1r,Jq1e xq1e] [] (Jq0v (Yq0v xq1r xq1e)):=fun x y K=>by kernel_rfl
theorem Iq0v_ok:InstOk Tryz.prog G.1 Iq0v:=iok (gives:=gives) [] (okCons Iq1r_ok (okCons Iq1e_ok okNil)) 53 follows Tryz.func200 (by kernel_rfl) (fun x=>by kernel_rfl) (Eq0v Xq1r Xq1e)
abbrev Tq0d:Type:=uQ130→(uQ130→Bool→Prop)→Prop
def Yq0d (xq0v:Tq0v) (a0:uQ130) (K:uQ130→Bool→Prop):Prop :=
 xq0v a0 (fun r1 =>
 (if (!r1) then
 K (0,false,ByteArray.mk #[],0,false,ByteArray.mk #[],false,0,0,0,0,0,0,0,0,0,0,()) false
 else
 K a0 true))
def Xq0d:Tq0d:=Yq0d Xq0v
def Jq0d (X:Tq0d):Inst:=mkI 161 upL131 .nil upL132 .nil X
def Iq0d:Inst:=Jq0d Xq0d
theorem Eq0d (xq0v:Tq0v):EqF Tryz.prog 9 gives Tryz.f161 [Jq0v xq0v] [] (Jq0d (Yq0d xq0v)):=fun x y K=>by kernel_rfl
theorem Iq0d_ok:InstOk Tryz.prog G.1 Iq0d:=iok (gives:=gives) [] (okCons Iq0v_ok okNil) 9 follows Tryz.func161 (by kernel_rfl) (fun x=>by kernel_rfl) (Eq0d Xq0v)
abbrev Tq0i:Type:=ByteArray→Int→Int→Int→(Int→ByteArray→Prop)→Prop
def Lq0i_0 (K:Int→ByteArray→Prop):(uQ133→Prop)→uQ133→Prop:=fun k4 x5 =>
 (if decide (x5.1.2.2.2.2.2.2.2.1 < (↑(ByteArray.size x5.1.1):Int)) then
 (if 0≤x5.1.2.2.2.2.2.2.2.1∧x5.1.2.2.2.2.2.2.2.1 < (↑(ByteArray.size x5.1.1):Int) then
 (if decide (Eng.bAt x5.1.1 (Int.toNat x5.1.2.2.2.2.2.2.2.1)≥48) then
 (if 0≤x5.1.2.2.2.2.2.2.2.1∧x5.1.2.2.2.2.2.2.2.1 < (↑(ByteArray.size x5.1.1):Int) then
 (if decide (Eng.bAt x5.1.1 (Int.toNat x5.1.2.2.2.2.2.2.2.1)≤57) then
 (if decide (x5.1.2.2.2.2.2.2.2.1≤x5.1.2.2.1) then
 (if 0≤x5.1.2.2.2.2.2.2.2.1∧x5.1.2.2.2.2.2.2.2.1 < (↑(ByteArray.size x5.1.1):Int) then
 (lt (w64 (wu8 (Eng.bAt x5.1.1 (Int.toNat x5.1.2.2.2.2.2.2.2.1) - 48))) fun v6 =>
 (lt (w64 (w64 (10 * x5.1.2.2.2.2.2.2.1)+v6)) fun v7 =>
 k4 ((x5.1.1,x5.1.2.1,x5.1.2.2.1,x5.1.2.2.2.1,x5.1.2.2.2.2.1,x5.1.2.2.2.2.2.1,v7,w64 (x5.1.2.2.2.2.2.2.2.1+1),()),())))
 else
 False)
 else
 (if decide (x5.1.2.2.2.2.2.2.2.1 < x5.1.2.1) then
 K (-1) x5.1.1
 else
 (if decide (x5.1.2.2.2.2.2.2.2.1 > x5.1.2.2.1) then
 K (-1) x5.1.1
 else
 (if decide (x5.1.2.2.2.2.2.2.1 > x5.1.2.2.2.1) then
 K (-1) x5.1.1
 else
 (if 0≤(↑(ByteArray.size x5.1.1):Int)∧(↑(ByteArray.size x5.1.1):Int)≤(↑(ByteArray.size x5.1.1):Int) then
 (if 0≤x5.1.2.2.2.2.2.2.2.1∧x5.1.2.2.2.2.2.2.2.1≤(↑(ByteArray.size x5.1.1):Int) then
 K x5.1.2.2.2.2.2.2.1 (ByteArray.extract x5.1.1 (Int.toNat x5.1.2.2.2.2.2.2.2.1) (Int.toNat (↑(ByteArray.size x5.1.1):Int)))
 else
 False)
 else
 False)))))
 else
 (if decide (x5.1.2.2.2.2.2.2.2.1 < x5.1.2.1) then
 K (-1) x5.1.1
 else
 (if decide (x5.1.2.2.2.2.2.2.2.1 > x5.1.2.2.1) then
 K (-1) x5.1.1
 else
 (if decide (x5.1.2.2.2.2.2.2.1 > x5.1.2.2.2.1) then
 K (-1) x5.1.1
 else
 (if 0≤(↑(ByteArray.size x5.1.1):Int)∧(↑(ByteArray.size x5.1.1):Int)≤(↑(ByteArray.size x5.1.1):Int) then
 (if 0≤x5.1.2.2.2.2.2.2.2.1∧x5.1.2.2.2.2.2.2.2.1≤(↑(ByteArray.size x5.1.1):Int) then
 K x5.1.2.2.2.2.2.2.1 (ByteArray.extract x5.1.1 (Int.toNat x5.1.2.2.2.2.2.2.2.1) (Int.toNat (↑(ByteArray.size x5.1.1):Int)))
 else
 False)
 else
 False)))))
 else
 False)
 else
 (if decide (x5.1.2.2.2.2.2.2.2.1 < x5.1.2.1) then
 K (-1) x5.1.1
 else
 (if decide (x5.1.2.2.2.2.2.2.2.1 > x5.1.2.2.1) then
 K (-1) x5.1.1
 else
 (if decide (x5.1.2.2.2.2.2.2.1 > x5.1.2.2.2.1) then
 K (-1) x5.1.1
 else
 (if 0≤(↑(ByteArray.size x5.1.1):Int)∧(↑(ByteArray.size x5.1.1):Int)≤(↑(ByteArray.size x5.1.1):Int) then
 (if 0≤x5.1.2.2.2.2.2.2.2.1∧x5.1.2.2.2.2.2.2.2.1≤(↑(ByteArray.size x5.1.1):Int) then
 K x5.1.2.2.2.2.2.2.1 (ByteArray.extract x5.1.1 (Int.toNat x5.1.2.2.2.2.2.2.2.1) (Int.toNat (↑(ByteArray.size x5.1.1):Int)))
 else
 False)
 else
 False)))))
 else
 False)
 else
 (if decide (x5.1.2.2.2.2.2.2.2.1 < x5.1.2.1) then
 K (-1) x5.1.1
 else
 (if decide (x5.1.2.2.2.2.2.2.2.1 > x5.1.2.2.1) then
 K (-1) x5.1.1
 else
 (if decide (x5.1.2.2.2.2.2.2.1 > x5.1.2.2.2.1) then
 K (-1) x5.1.1
 else
 (if 0≤(↑(ByteArray.size x5.1.1):Int)∧(↑(ByteArray.size x5.1.1):Int)≤(↑(ByteArray.size x5.1.1):Int) then
 (if 0≤x5.1.2.2.2.2.2.2.2.1∧x5.1.2.2.2.2.2.2.2.1≤(↑(ByteArray.size x5.1.1):Int) then
 K x5.1.2.2.2.2.2.2.1 (ByteArray.extract x5.1.1 (Int.toNat x5.1.2.2.2.2.2.2.2.1) (Int.toNat (↑(ByteArray.size x5.1.1):Int)))
 else
 False)
 else
 False)))))
def Lq0i_0p:Lp:=⟨3855,[.trim 3855],upT134,.nil,0⟩
def Yq0i (a0:ByteArray) (a1:Int) (a2:Int) (a3:Int) (K:Int→ByteArray→Prop):Prop :=
 lp (Lq0i_0 K) ((a0,a1,a2,a3,0,ByteArray.mk #[],0,0,()),())
def Xq0i:Tq0i:=Yq0i
def Jq0i (X:Tq0i):Inst:=mkI 226 upL135 .nil upL122 .nil X
def Iq0i:Inst:=Jq0i Xq0i
theorem Eq0i:EqF Tryz.prog 61 gives Tryz.f226 [] [Lq0i_0p] (Jq0i (Yq0i)):=fun x y K=>by kernel_rfl
theorem Iq0i_ok:InstOk Tryz.prog G.1 Iq0i:=iok (gives:=gives) [Lq0i_0p] okNil 61 follows Tryz.func226 (by kernel_rfl) (fun x=>by kernel_rfl) (Eq0i)
abbrev Tq22:Type:=ByteArray→(Int→ByteArray→Prop)→Prop
def Yq22 (xq0i:Tq0i) (a0:ByteArray) (K:Int→ByteArray→Prop):Prop :=
 (if decide ((↑(ByteArray.size a0):Int) < 1) then
 K (-1) a0
 else
 (if (0 :Int)≤0∧0 < (↑(ByteArray.size a0):Int) then
 (if (Eng.bAt a0 (0:Nat) != 46) then
 K (-1) a0
 else
 (if 0≤(↑(ByteArray.size a0):Int)∧(↑(ByteArray.size a0):Int)≤(↑(ByteArray.size a0):Int) then
 (if (0 :Int)≤1∧1≤(↑(ByteArray.size a0):Int) then
 xq0i (ByteArray.extract a0 (1:Nat) (Int.toNat (↑(ByteArray.size a0):Int))) 1 1 9 (fun r1 r2 =>
 K r1 r2)
 else
 False)
 else
 False))
 else
 False))
def Xq22:Tq22:=Yq22 Xq0i
def Jq22 (X:Tq22):Inst:=mkI 227 upL106 .nil upL122 .nil X
def Iq22:Inst:=Jq22 Xq22
theorem Eq22 (xq0i:Tq0i):EqF Tryz.prog 18 gives Tryz.f227 [Jq0i xq0i] [] (Jq22 (Yq22 xq0i)):=fun x y K=>by kernel_rfl
theorem Iq22_ok:InstOk Tryz.prog G.1 Iq22:=iok (gives:=gives) [] (okCons Iq0i_ok okNil) 18 follows Tryz.func227 (by kernel_rfl) (fun x=>by kernel_rfl) (Eq22 Xq0i)
abbrev Tq1x:Type:=ByteArray→(uQ128→ByteArray→Prop)→Prop
def Yq1x (xq0i:Tq0i) (xq22:Tq22) (a0:ByteArray) (K:uQ128→ByteArray→Prop):Prop :=
 (if decide ((↑(ByteArray.size a0):Int) > 0) then
 (if (0 :Int)≤0∧0 < (↑(ByteArray.size a0):Int) then
 (if (Eng.bAt a0 (0:Nat) == 77) then
 (if 0≤(↑(ByteArray.size a0):Int)∧(↑(ByteArray.size a0):Int)≤(↑(ByteArray.size a0):Int) then
 (if (0 :Int)≤1∧1≤(↑(ByteArray.size a0):Int) then
 xq0i (ByteArray.extract a0 (1:Nat) (Int.toNat (↑(ByteArray.size a0):Int))) 1 2 12 (fun r1 r2 =>
 xq22 r2 (fun r3 r4 =>
 xq22 r4 (fun r5 r6 =>
 K (0,r1,r3,r5,7200,()) r6)))
 else
 False)
 else
 False)
 else
 (if decide ((↑(ByteArray.size a0):Int) > 0) then
 (if (0 :Int)≤0∧0 < (↑(ByteArray.size a0):Int) then
 (if (Eng.bAt a0 (0:Nat) == 74) then
 (if 0≤(↑(ByteArray.size a0):Int)∧(↑(ByteArray.size a0):Int)≤(↑(ByteArray.size a0):Int) then
 (if (0 :Int)≤1∧1≤(↑(ByteArray.size a0):Int) then
 xq0i (ByteArray.extract a0 (1:Nat) (Int.toNat (↑(ByteArray.size a0):Int))) 1 3 365 (fun r7 r8 =>
 K (1,r7,0,0,7200,()) r8)
 else
 False)
 else
 False)
 else
 xq0i a0 1 3 365 (fun r9 r10 =>
 K (2,r9,0,0,7200,()) r10))
 else
 False)
 else
 xq0i a0 1 3 365 (fun r11 r12 =>
 K (2,r11,0,0,7200,()) r12)))
 else
 False)
 else
 (if decide ((↑(ByteArray.size a0):Int) > 0) then
 (if (0 :Int)≤0∧0 < (↑(ByteArray.size a0):Int) then
 (if (Eng.bAt a0 (0:Nat) == 74) then
 (if 0≤(↑(ByteArray.size a0):Int)∧(↑(ByteArray.size a0):Int)≤(↑(ByteArray.size a0):Int) then
 (if (0 :Int)≤1∧1≤(↑(ByteArray.size a0):Int) then
 xq0i (ByteArray.extract a0 (1:Nat) (Int.toNat (↑(ByteArray.size a0):Int))) 1 3 365 (fun r13 r14 =>
 K (1,r13,0,0,7200,()) r14)
 else
 False)
 else
 False)
 else
 xq0i a0 1 3 365 (fun r15 r16 =>
 K (2,r15,0,0,7200,()) r16))
 else
 False)
 else
 xq0i a0 1 3 365 (fun r17 r18 =>
 K (2,r17,0,0,7200,()) r18)))
def Xq1x:Tq1x:=Yq1x Xq0i Xq22
def Jq1x (X:Tq1x):Inst:=mkI 201 upL106 .nil upL136 .nil X
def Iq1x:Inst:=Jq1x Xq1x
theorem Eq1x (xq0i:Tq0i) (xq22:Tq22):EqF Tryz.prog 67 gives Tryz.f201 [Jq0i xq0i,Jq22 xq22] [] (Jq1x (Yq1x xq0i xq22)):=fun x y K=>by kernel_rfl
theorem Iq1x_ok:InstOk Tryz.prog G.1 Iq1x:=iok (gives:=gives) [] (okCons Iq0i_ok (okCons Iq22_ok okNil)) 67 follows Tryz.func201 (by kernel_rfl) (fun x=>by kernel_rfl) (Eq1x Xq0i Xq22)
abbrev Tq1i:Type:=ByteArray→(uQ128→ByteArray→Bool→Prop)→Prop
def Yq1i (xq1x:Tq1x) (xq1e:Tq1e) (xq21:Tq21) (a0:ByteArray) (K:uQ128→ByteArray→Bool→Prop):Prop :=
 xq1x a0 (fun r1 r2 =>
 xq1e r1 (fun r3 =>
 (if (!r3) then
 K (0,0,0,0,0,()) a0 false
 else
 (if decide ((↑(ByteArray.size r2):Int) > 0) then
 (if (0 :Int)≤0∧0 < (↑(ByteArray.size r2):Int) then
 (if (Eng.bAt r2 (0:Nat) == 47) then
 (if 0≤(↑(ByteArray.size r2):Int)∧(↑(ByteArray.size r2):Int)≤(↑(ByteArray.size r2):Int) then
 (if (0 :Int)≤1∧1≤(↑(ByteArray.size r2):Int) then
 xq21 (ByteArray.extract r2 (1:Nat) (Int.toNat (↑(ByteArray.size r2):Int))) (fun r4 r5 r6 =>
 (if (!r6) then
 K (0,0,0,0,0,()) a0 false
 else
 K (r1.1,r1.2.1,r1.2.2.1,r1.2.2.2.1,r4,()) r5 true))
 else
 False)
 else
 False)
 else
 K r1 r2 true)
 else
 False)
 else
 K r1 r2 true))))
def Xq1i:Tq1i:=Yq1i Xq1x Xq1e Xq21
def Jq1i (X:Tq1i):Inst:=mkI 162 upL106 .nil upL137 .nil X
def Iq1i:Inst:=Jq1i Xq1i
theorem Eq1i (xq1x:Tq1x) (xq1e:Tq1e) (xq21:Tq21):EqF Tryz.prog 44 gives Tryz.f162 [Jq1x xq1x,Jq1e xq1e,Jq21 xq21] [] (Jq1i (Yq1i xq1x xq1e xq21)):=fun x y K=>by kernel_rfl
theorem Iq1i_ok:InstOk Tryz.prog G.1 Iq1i:=iok (gives:=gives) [] (okCons Iq1x_ok (okCons Iq1e_ok (okCons Iq21_ok okNil))) 44 follows Tryz.func162 (by kernel_rfl) (fun x=>by kernel_rfl) (Eq1i Xq1x Xq1e Xq21)
abbrev Tq0z:Type:=ByteArray→(uQ130→Bool→Prop)→Prop
def Yq0z (xq1z:Tq1z) (xq21:Tq21) (xq0d:Tq0d) (xq1i:Tq1i) (a0:ByteArray) (K:uQ130→Bool→Prop):Prop :=
 xq1z a0 (fun r1 r2 r3 =>
 xq21 r2 (fun r4 r5 r6 =>
 (if (!r3) then
 K (0,false,ByteArray.mk #[],0,false,ByteArray.mk #[],false,0,0,0,0,0,0,0,0,0,0,()) false
 else
 (if (!r6) then
 K (0,false,ByteArray.mk #[],0,false,ByteArray.mk #[],false,0,0,0,0,0,0,0,0,0,0,()) false
 else
 (if (ByteArray.toList r5 == ByteArray.toList (ByteArray.mk #[])) then
 xq0d (w64 (0 - r4),false,r1,0,false,ByteArray.mk #[],false,0,0,0,0,0,0,0,0,0,0,()) (fun r7 r8 =>
 K r7 r8)
 else
 xq1z r5 (fun r9 r10 r11 =>
 (lt (w64 (w64 (0 - r4)+3600)) fun v12 =>
 xq21 r10 (fun r13 r14 r15 =>
 (if r15 then
 (if (!r11) then
 K (0,false,ByteArray.mk #[],0,false,ByteArray.mk #[],false,0,0,0,0,0,0,0,0,0,0,()) false
 else
 (if ((↑(ByteArray.size r14):Int) == 0) then
 K (0,false,ByteArray.mk #[],0,false,ByteArray.mk #[],false,0,0,0,0,0,0,0,0,0,0,()) false
 else
 (if (0 :Int)≤0∧0 < (↑(ByteArray.size r14):Int) then
 (if (Eng.bAt r14 (0:Nat) != 44) then
 K (0,false,ByteArray.mk #[],0,false,ByteArray.mk #[],false,0,0,0,0,0,0,0,0,0,0,()) false
 else
 (if 0≤(↑(ByteArray.size r14):Int)∧(↑(ByteArray.size r14):Int)≤(↑(ByteArray.size r14):Int) then
 (if (0 :Int)≤1∧1≤(↑(ByteArray.size r14):Int) then
 xq1i (ByteArray.extract r14 (1:Nat) (Int.toNat (↑(ByteArray.size r14):Int))) (fun r16 r17 r18 =>
 (if (!r18) then
 K (0,false,ByteArray.mk #[],0,false,ByteArray.mk #[],false,0,0,0,0,0,0,0,0,0,0,()) false
 else
 (if ((↑(ByteArray.size r17):Int) == 0) then
 K (0,false,ByteArray.mk #[],0,false,ByteArray.mk #[],false,0,0,0,0,0,0,0,0,0,0,()) false
 else
 (if (0 :Int)≤0∧0 < (↑(ByteArray.size r17):Int) then
 (if (Eng.bAt r17 (0:Nat) != 44) then
 K (0,false,ByteArray.mk #[],0,false,ByteArray.mk #[],false,0,0,0,0,0,0,0,0,0,0,()) false
 else
 (if 0≤(↑(ByteArray.size r17):Int)∧(↑(ByteArray.size r17):Int)≤(↑(ByteArray.size r17):Int) then
 (if (0 :Int)≤1∧1≤(↑(ByteArray.size r17):Int) then
 xq1i (ByteArray.extract r17 (1:Nat) (Int.toNat (↑(ByteArray.size r17):Int))) (fun r19 r20 r21 =>
 (if (!r21) then
 K (0,false,ByteArray.mk #[],0,false,ByteArray.mk #[],false,0,0,0,0,0,0,0,0,0,0,()) false
 else
 (if (!ByteArray.toList r20 == ByteArray.toList (ByteArray.mk #[])) then
 K (0,false,ByteArray.mk #[],0,false,ByteArray.mk #[],false,0,0,0,0,0,0,0,0,0,0,()) false
 else
 xq0d (w64 (0 - r4),false,r1,w64 (0 - r13),true,r9,true,r16.1,r16.2.1,r16.2.2.1,r16.2.2.2.1,r16.2.2.2.2.1,r19) (fun r22 r23 =>
 K r22 r23))))
 else
 False)
 else
 False))
 else
 False))))
 else
 False)
 else
 False))
 else
 False)))
 else
 (if (!r11) then
 K (0,false,ByteArray.mk #[],0,false,ByteArray.mk #[],false,0,0,0,0,0,0,0,0,0,0,()) false
 else
 (if ((↑(ByteArray.size r14):Int) == 0) then
 K (0,false,ByteArray.mk #[],0,false,ByteArray.mk #[],false,0,0,0,0,0,0,0,0,0,0,()) false
 else
 (if (0 :Int)≤0∧0 < (↑(ByteArray.size r14):Int) then
 (if (Eng.bAt r14 (0:Nat) != 44) then
 K (0,false,ByteArray.mk #[],0,false,ByteArray.mk #[],false,0,0,0,0,0,0,0,0,0,0,()) false
 else
 (if 0≤(↑(ByteArray.size r14):Int)∧(↑(ByteArray.size r14):Int)≤(↑(ByteArray.size r14):Int) then
 (if (0 :Int)≤1∧1≤(↑(ByteArray.size r14):Int) then
 xq1i (ByteArray.extract r14 (1:Nat) (Int.toNat (↑(ByteArray.size r14):Int))) (fun r24 r25 r26 =>
 (if (!r26) then
 K (0,false,ByteArray.mk #[],0,false,ByteArray.mk #[],false,0,0,0,0,0,0,0,0,0,0,()) false
 else
 (if ((↑(ByteArray.size r25):Int) == 0) then
 K (0,false,ByteArray.mk #[],0,false,ByteArray.mk #[],false,0,0,0,0,0,0,0,0,0,0,()) false
 else
 (if (0 :Int)≤0∧0 < (↑(ByteArray.size r25):Int) then
 (if (Eng.bAt r25 (0:Nat) != 44) then
 K (0,false,ByteArray.mk #[],0,false,ByteArray.mk #[],false,0,0,0,0,0,0,0,0,0,0,()) false
 else
 (if 0≤(↑(ByteArray.size r25):Int)∧(↑(ByteArray.size r25):Int)≤(↑(ByteArray.size r25):Int) then
 (if (0 :Int)≤1∧1≤(↑(ByteArray.size r25):Int) then
 xq1i (ByteArray.extract r25 (1:Nat) (Int.toNat (↑(ByteArray.size r25):Int))) (fun r27 r28 r29 =>
 (if (!r29) then
 K (0,false,ByteArray.mk #[],0,false,ByteArray.mk #[],false,0,0,0,0,0,0,0,0,0,0,()) false
 else
 (if (!ByteArray.toList r28 == ByteArray.toList (ByteArray.mk #[])) then
 K (0,false,ByteArray.mk #[],0,false,ByteArray.mk #[],false,0,0,0,0,0,0,0,0,0,0,()) false
 else
 xq0d (w64 (0 - r4),false,r1,v12,true,r9,true,r24.1,r24.2.1,r24.2.2.1,r24.2.2.2.1,r24.2.2.2.2.1,r27) (fun r30 r31 =>
 K r30 r31))))
 else
 False)
 else
 False))
 else
 False))))
 else
 False)
 else
 False))
 else
 False))))))))))))
def Xq0z:Tq0z:=Yq0z Xq1z Xq21 Xq0d Xq1i
def Jq0z (X:Tq0z):Inst:=mkI 102 upL106 .nil upL132 .nil X
def Iq0z:Inst:=Jq0z Xq0z
theorem Eq0z (xq1z:Tq1z) (xq21:Tq21) (xq0d:Tq0d) (xq1i:Tq1i):EqF Tryz.prog 133 gives Tryz.f102 [Jq1z xq1z,Jq21 xq21,Jq0d xq0d,Jq1i xq1i] [] (Jq0z (Yq0z xq1z xq21 xq0d xq1i)):=fun x y K=>by kernel_rfl
theorem Iq0z_ok:InstOk Tryz.prog G.1 Iq0z:=iok (gives:=gives) [] (okCons Iq1z_ok (okCons Iq21_ok (okCons Iq0d_ok (okCons Iq1i_ok okNil)))) 133 follows Tryz.func102 (by kernel_rfl) (fun x=>by kernel_rfl) (Eq0z Xq1z Xq21 Xq0d Xq1i)
abbrev Tq1l:Type:=uQ58→(Bool→Prop)→Prop
def Lq1l_1 (xq0z:Tq0z) (K:Bool→Prop) (k6:uQ138→Prop):(uQ138→Prop)→uQ138→Prop:=fun k10 x11 =>
 (if decide (x11.1.2.2.1 < (↑(List.length x11.2.1.2.1):Int)) then
 (if 0≤x11.1.2.2.1∧x11.1.2.2.1 < (↑(List.length x11.2.1.2.1):Int) then
 (Eng.asInt IntKind.i64 (Eng.getC x11.2.1.2.1 (Int.toNat x11.1.2.2.1) (1:Nat)) False fun n12 =>
 (if decide (n12 < 0) then
 K false
 else
 (if 0≤x11.1.2.2.1∧x11.1.2.2.1 < (↑(List.length x11.2.1.2.1):Int) then
 (Eng.asInt IntKind.i64 (Eng.getC x11.2.1.2.1 (Int.toNat x11.1.2.2.1) (1:Nat)) False fun n13 =>
 (if decide (n13≥(↑(List.length x11.2.1.1):Int)) then
 K false
 else
 (if decide (x11.1.2.2.1 > 0) then
 (if 0≤x11.1.2.2.1∧x11.1.2.2.1 < (↑(List.length x11.2.1.2.1):Int) then
 (Eng.asInt IntKind.i64 (Eng.getC x11.2.1.2.1 (Int.toNat x11.1.2.2.1) (0:Nat)) False fun n14 =>
 (if 0≤w64 (x11.1.2.2.1 - 1)∧w64 (x11.1.2.2.1 - 1) < (↑(List.length x11.2.1.2.1):Int) then
 (Eng.asInt IntKind.i64 (Eng.getC x11.2.1.2.1 (Int.toNat (w64 (x11.1.2.2.1 - 1))) (0:Nat)) False fun n15 =>
 (if decide (n14≤n15) then
 K false
 else
 k10 (((),x11.1.2.1,w64 (x11.1.2.2.1+1),()),x11.2)))
 else
 False))
 else
 False)
 else
 k10 (((),x11.1.2.1,w64 (x11.1.2.2.1+1),()),x11.2))))
 else
 False)))
 else
 False)
 else
 (if (ByteArray.toList x11.2.1.2.2.2.1 == ByteArray.toList (ByteArray.mk #[])) then
 K true
 else
 xq0z x11.2.1.2.2.2.1 (fun r16 r17 =>
 (if decide (r16.2.2.2.2.2.2.2.2.2.2.2.1 < 0) then
 (if r17 then
 (if decide (x11.2.1.2.2.2.2.1 > 1) then
 K (decide (x11.2.1.2.2.2.2.1 > 2))
 else
 K false)
 else
 K false)
 else
 (if decide (r16.2.2.2.2.2.2.2.2.2.2.2.1 > 86400) then
 (if r17 then
 (if decide (x11.2.1.2.2.2.2.1 > 1) then
 K (decide (x11.2.1.2.2.2.2.1 > 2))
 else
 K false)
 else
 K false)
 else
 (if decide (r16.2.2.2.2.2.2.2.2.2.2.2.2.2.2.2.2.1 < 0) then
 (if r17 then
 (if decide (x11.2.1.2.2.2.2.1 > 1) then
 K (decide (x11.2.1.2.2.2.2.1 > 2))
 else
 K false)
 else
 K false)
 else
 (if r17 then
 (if decide (x11.2.1.2.2.2.2.1 > 1) then
 (if (!decide (r16.2.2.2.2.2.2.2.2.2.2.2.2.2.2.2.2.1 > 86400)) then
 K true
 else
 K (decide (x11.2.1.2.2.2.2.1 > 2)))
 else
 K false)
 else
 K false)))))))
def Lq1l_1p:Lp:=⟨518,[.trim 518],upT139,upH140,0⟩
def Lq1l_0 (xq0z:Tq0z) (K:Bool→Prop):(uQ138→Prop)→uQ138→Prop:=fun k6 x7 =>
 (if decide (x7.1.2.2.1 < (↑(List.length x7.2.1.1):Int)) then
 (if 0≤x7.1.2.2.1∧x7.1.2.2.1 < (↑(List.length x7.2.1.1):Int) then
 (Eng.asInt IntKind.i64 (Eng.getC x7.2.1.1 (Int.toNat x7.1.2.2.1) (0:Nat)) False fun n8 =>
 (if decide (n8 < (-89999)) then
 K false
 else
 (if 0≤x7.1.2.2.1∧x7.1.2.2.1 < (↑(List.length x7.2.1.1):Int) then
 (Eng.asInt IntKind.i64 (Eng.getC x7.2.1.1 (Int.toNat x7.1.2.2.1) (0:Nat)) False fun n9 =>
 (if decide (n9 > 93599) then
 K false
 else
 k6 (((),x7.1.2.1,w64 (x7.1.2.2.1+1),()),x7.2)))
 else
 False)))
 else
 False)
 else
 lp (Lq1l_1 xq0z K k6) (((),x7.1.2.1,0,()),x7.2))
def Lq1l_0p:Lp:=⟨262,[.trim 262],upT141,upH140,0⟩
def Yq1l (xq0y:Tq0y) (xq18:Tq18) (xq0m:Tq0m) (xq0z:Tq0z) (a0:uQ58) (K:Bool→Prop):Prop :=
 xq0y a0 (fun r1 r2 =>
 xq18 a0.2.2.1 (fun r3 =>
 xq0m a0.2.2.1 (fun r4 r5 =>
 (if (!r2) then
 K false
 else
 (if (!r3) then
 K false
 else
 (if r5 then
 (if (a0.2.2.2.2.1 != 4) then
 K false
 else
 lp (Lq1l_0 xq0z K) (((),false,0,()),a0,()))
 else
 lp (Lq1l_0 xq0z K) (((),false,0,()),a0,())))))))
def Xq1l:Tq1l:=Yq1l Xq0y Xq18 Xq0m Xq0z
def Jq1l (X:Tq1l):Inst:=mkI 41 upL74 .nil upL9 .nil X
def Iq1l:Inst:=Jq1l Xq1l
theorem Eq1l (xq0y:Tq0y) (xq18:Tq18) (xq0m:Tq0m) (xq0z:Tq0z):EqF Tryz.prog 156 gives Tryz.f41 [Jq0y xq0y,Jq18 xq18,Jq0m xq0m,Jq0z xq0z] [Lq1l_0p,Lq1l_1p] (Jq1l (Yq1l xq0y xq18 xq0m xq0z)):=fun x y K=>by kernel_rfl
theorem Iq1l_ok:InstOk Tryz.prog G.1 Iq1l:=iok (gives:=gives) [Lq1l_0p,Lq1l_1p] (okCons Iq0y_ok (okCons Iq18_ok (okCons Iq0m_ok (okCons Iq0z_ok okNil)))) 156 follows Tryz.func41 (by kernel_rfl) (fun x=>by kernel_rfl) (Eq1l Xq0y Xq18 Xq0m Xq0z)
end Go.Proofs.YtbnpclndiichcaaGreatDoor
end
section
set_option linter.unusedVariables false
set_option linter.unusedSimpArgs false
namespace Go.Proofs.YtbnpclndiichcaaGreatDoor
open Go Go.Proofs.YtbnpclndiichcaaGreatDoor.Eng
set_option maxRecDepth 100000
set_option maxHeartbeats 4000000
variable {G:Gs}
abbrev mpL0:PL:=(.cons (.int .i64) (.cons (.int .i64) .nil))
abbrev mpL1:PL:=(.cons (.int .i64) (.cons (.int .i64) (.cons .bool .nil)))
abbrev mpL2:PL:=(.cons (.int .i64) .nil)
abbrev mpL3:PL:=(.cons .bool .nil)
abbrev mQ4:Type:=(Int×Int×Int×Int×Bool×Int×Unit)×Unit
abbrev mQ5:Type:=(Int×Int×Int×Bool×Int×Int×Int×Unit)×Unit
abbrev mpT6:PT:=(.cons 2 (.int .i64) (.cons 3 (.int .i64) (.cons 4 (.int .i64) (.cons 5 .bool (.cons 6 (.int .i64) (.cons 7 (.int .i64) (.cons 8 (.int .i64) .nil)))))))
abbrev mpT7:PT:=(.cons 0 (.int .i64) (.cons 2 (.int .i64) (.cons 3 (.int .i64) (.cons 4 (.int .i64) (.cons 5 .bool (.cons 6 (.int .i64) .nil))))))
abbrev mpL8:PL:=(.cons (.int .i64) (.cons (.int .i64) (.cons (.int .i64) (.cons .bool .nil))))
abbrev mQ9:Type:=List Eng.V×Bool×Int×Unit
abbrev mpL10:PL:=(.cons (.agg (.cons (.slN 3) (.cons .bool (.cons (.int .i64) .nil)))) (.cons (.int .i64) .nil))
abbrev mQ11:Type:=(Unit×Int×Int×Int×Int×Unit)×(List Eng.V×Bool×Int×Unit)×Unit
abbrev mpT12:PT:=(.cons 1 (.ptr 80 0) (.cons 2 (.int .i64) (.cons 3 (.int .i64) (.cons 4 (.int .i64) (.cons 5 (.int .i64) .nil)))))
abbrev mpH13:PH:=(.cons 80 (.cells [.sl 3,.bool,.int .i64] (.cons (.slN 3) (.cons .bool (.cons (.int .i64) .nil)))) .nil)
abbrev mpL14:PL:=(.cons (.agg (.cons (.slN 3) (.cons .bool (.cons (.int .i64) .nil)))) .nil)
abbrev mQ15:Type:=Unit×Bool×Int×Unit
abbrev mQ16:Type:=(List Eng.V×Unit×Bool×Unit×Int×Int×Int×Unit)×(Unit×Bool×Int×Unit)×(Unit×Bool×Int×Unit)×List Eng.V×Unit
abbrev mpT17:PT:=(.cons 0 (.slN 2) (.cons 2 (.ptr 96 0) (.cons 3 .bool (.cons 4 (.ptr 128 0) (.cons 5 (.int .i64) (.cons 6 (.int .i64) (.cons 7 (.int .i64) .nil)))))))
abbrev mpH18:PH:=(.cons 96 (.cells [.sl 3,.bool,.int .i64] (.cons (.nl 3) (.cons .bool (.cons (.int .i64) .nil)))) (.cons 128 (.cells [.sl 3,.bool,.int .i64] (.cons (.sla 1648) (.cons .bool (.cons (.int .i64) .nil)))) (.cons 1648 (.arr 3 true false) .nil)))
abbrev mpL19:PL:=(.cons (.slN 2) .nil)
abbrev mpL20:PL:=(.cons (.agg (.cons (.sla 0) (.cons .bool (.cons (.int .i64) .nil)))) (.cons .bool .nil))
abbrev mpH21:PH:=(.cons 0 (.arrB 3) .nil)
abbrev mQ22:Type:=List Eng.V×List Eng.V×List Eng.V×ByteArray×Int×Unit
abbrev mpL23:PL:=(.cons (.agg (.cons (.slN 3) (.cons (.slN 2) (.cons (.slN 2) (.cons .str (.cons (.int .i64) .nil)))))) .nil)
abbrev mpL24:PL:=(.cons (.int .i64) (.cons .bool .nil))
abbrev mQ25:Type:=(Int×Int×Int×Unit×Int×Int×Int×Unit)×(Unit×Bool×Int×Unit)×(List Eng.V×Bool×Bool)×Unit
abbrev mpT26:PT:=(.cons 4 (.int .i64) (.cons 5 (.int .i64) (.cons 6 (.int .i64) (.cons 7 (.ptr 176 0) (.cons 11 (.int .i64) (.cons 12 (.int .i64) (.cons 13 (.int .i64) .nil)))))))
abbrev mpH27:PH:=(.cons 176 (.cells [.sl 3,.bool,.int .i64] (.cons (.sla 336) (.cons .bool (.cons (.int .i64) .nil)))) (.cons 336 (.arrB 3) .nil))
abbrev mpL28:PL:=(.cons (.slN 2) (.cons (.int .i64) .nil))
abbrev mpL29:PL:=(.cons (.int .i64) (.cons (.int .i64) (.cons (.int .i64) .nil)))
abbrev mQ30:Type:=(Int×Unit×Int×Int×Int×Unit)×(List Eng.V×List Eng.V×List Eng.V×ByteArray×Int×Unit)×Unit
abbrev mpT31:PT:=(.cons 1 (.int .i64) (.cons 2 (.ptr 96 0) (.cons 4 (.int .i64) (.cons 5 (.int .i64) (.cons 6 (.int .i64) .nil)))))
abbrev mpH32:PH:=(.cons 96 (.cells [.sl 3,.sl 2,.sl 2,.str,.int .i64] (.cons (.slN 3) (.cons (.slN 2) (.cons (.slN 2) (.cons .str (.cons (.int .i64) .nil)))))) .nil)
abbrev mpL33:PL:=(.cons (.agg (.cons (.slN 3) (.cons (.slN 2) (.cons (.slN 2) (.cons .str (.cons (.int .i64) .nil)))))) (.cons (.int .i64) .nil))
abbrev mQ34:Type:=(List Eng.V×Int×Int×Int×Int×Unit)×Unit
abbrev mpT35:PT:=(.cons 0 (.slN 2) (.cons 1 (.int .i64) (.cons 4 (.int .i64) (.cons 5 (.int .i64) (.cons 6 (.int .i64) .nil)))))
abbrev mQ36:Type:=(Int×Int×Int×Bool×Int×Int×Unit)×Unit
abbrev mpT37:PT:=(.cons 0 (.int .i64) (.cons 1 (.int .i64) (.cons 6 (.int .i64) (.cons 7 .bool (.cons 10 (.int .i64) (.cons 11 (.int .i64) .nil))))))
abbrev mQ38:Type:=Int×Int×Int×Int×Int×Unit
abbrev mQ39:Type:=(Unit×Int×Bool×Int×Int×Int×Int×Int×Unit)×(Int×Int×Int×Int×Int×Unit)×Unit
abbrev mpT40:PT:=(.cons 2 (.ptr 96 0) (.cons 4 (.int .i64) (.cons 5 .bool (.cons 9 (.int .i64) (.cons 11 (.int .i64) (.cons 13 (.int .i64) (.cons 14 (.int .i64) (.cons 15 (.int .i64) .nil))))))))
abbrev mpH41:PH:=(.cons 96 (.cells [.int .i64,.int .i64,.int .i64,.int .i64,.int .i64] (.cons (.int .i64) (.cons (.int .i64) (.cons (.int .i64) (.cons (.int .i64) (.cons (.int .i64) .nil)))))) .nil)
abbrev mpL42:PL:=(.cons (.agg (.cons (.int .i64) (.cons (.int .i64) (.cons (.int .i64) (.cons (.int .i64) (.cons (.int .i64) .nil)))))) (.cons (.int .i64) .nil))
abbrev mQ43:Type:=Int×Bool×ByteArray×Int×Bool×ByteArray×Bool×Int×Int×Int×Int×Int×Int×Int×Int×Int×Int×Unit
abbrev mpL44:PL:=(.cons (.agg (.cons (.int .i64) (.cons .bool (.cons .str (.cons (.int .i64) (.cons .bool (.cons .str (.cons .bool (.cons (.int .i64) (.cons (.int .i64) (.cons (.int .i64) (.cons (.int .i64) (.cons (.int .i64) (.cons (.int .i64) (.cons (.int .i64) (.cons (.int .i64) (.cons (.int .i64) (.cons (.int .i64) .nil)))))))))))))))))) (.cons (.int .i64) .nil))
abbrev mQ45:Type:=Int×Bool×ByteArray×Unit
abbrev mpL46:PL:=(.cons (.agg (.cons (.int .i64) (.cons .bool (.cons .str .nil)))) .nil)
abbrev mQ47:Type:=Int×Int×Int×Int×Int×Bool×ByteArray×Unit
abbrev mpL48:PL:=(.cons (.agg (.cons (.int .i64) (.cons (.int .i64) (.cons (.int .i64) (.cons (.int .i64) (.cons (.int .i64) (.cons .bool (.cons .str .nil)))))))) (.cons (.int .i64) .nil))
abbrev mQ49:Type:=(Int×Int×ByteArray×ByteArray×Int×Unit)×Unit
abbrev mpT50:PT:=(.cons 0 (.int .i64) (.cons 1 (.int .i64) (.cons 4 .str (.cons 5 .str (.cons 6 (.int .i64) .nil)))))
abbrev mpL51:PL:=(.cons .str .nil)
abbrev mpL52:PL:=(.cons .str (.cons .bool .nil))
abbrev mpL53:PL:=(.cons (.agg (.cons (.int .i64) (.cons (.int .i64) (.cons (.int .i64) (.cons (.int .i64) (.cons (.int .i64) (.cons .bool (.cons .str .nil)))))))) .nil)
abbrev mQ54:Type:=(ByteArray×Int×Int×Int×Unit)×Unit
abbrev mpT55:PT:=(.cons 0 .str (.cons 2 (.int .i64) (.cons 3 (.int .i64) (.cons 4 (.int .i64) .nil))))
abbrev mpL56:PL:=(.cons (.agg (.cons (.int .i64) (.cons (.int .i64) (.cons (.int .i64) (.cons (.int .i64) (.cons (.int .i64) (.cons .bool (.cons .str .nil)))))))) (.cons .bool .nil))
abbrev mpL57:PL:=(.cons .str (.cons (.int .i64) .nil))
abbrev mQ58:Type:=(ByteArray×Unit×Int×Int×Int×Int×Unit)×(List Eng.V×List Eng.V×List Eng.V×ByteArray×Int×Unit)×Unit
abbrev mpT59:PT:=(.cons 1 .str (.cons 2 (.ptr 96 0) (.cons 4 (.int .i64) (.cons 5 (.int .i64) (.cons 9 (.int .i64) (.cons 10 (.int .i64) .nil))))))
abbrev mpL60:PL:=(.cons (.agg (.cons (.slN 3) (.cons (.slN 2) (.cons (.slN 2) (.cons .str (.cons (.int .i64) .nil)))))) (.cons .str .nil))
abbrev mpL61:PL:=(.cons (.agg (.cons (.slN 3) (.cons (.slN 2) (.cons (.slN 2) (.cons .str (.cons (.int .i64) .nil)))))) (.cons (.int .i64) (.cons (.agg (.cons (.int .i64) (.cons (.int .i64) (.cons (.int .i64) (.cons (.int .i64) (.cons (.int .i64) (.cons .bool (.cons .str .nil)))))))) (.cons .str .nil))))
abbrev Tq2j:Type:=Int→Int→(Int→Int→Bool→Prop)→Prop
def Yq2j (a0:Int) (a1:Int) (K:Int→Int→Bool→Prop):Prop :=
 (if decide (a1 < 1) then
 K 0 0 false
 else
 (if a1=0 then
 False
 else
 (if a1=0 then
 False
 else
 (if decide (Int.tmod a0 a1 < 0) then
 (lt (w64 (w64 (Int.tdiv a0 a1) - 1)) fun v2 =>
 K v2 (w64 (Int.tmod a0 a1+a1)) true)
 else
 K (w64 (Int.tdiv a0 a1)) (Int.tmod a0 a1) true))))
def Xq2j:Tq2j:=Yq2j
def Jq2j (X:Tq2j):Inst:=mkI 142 mpL0 .nil mpL1 .nil X
def Iq2j:Inst:=Jq2j Xq2j
theorem Eq2j:EqF Tryz.prog 26 gives Tryz.f142 [] [] (Jq2j (Yq2j)):=fun x y K=>by kernel_rfl
theorem Iq2j_ok:InstOk Tryz.prog G.1 Iq2j:=iok (gives:=gives) [] okNil 26 follows Tryz.func142 (by kernel_rfl) (fun x=>by kernel_rfl) (Eq2j)
abbrev Tq16:Type:=Int→(Int→Prop)→Prop
def Yq16 (a0:Int) (K:Int→Prop):Prop :=
 (lt (w64 (365 * w64 (a0 - 1))) fun v1 =>
 (lt (w64 (Int.tdiv (w64 (a0 - 1)) 4)) fun v2 =>
 (lt (w64 (Int.tdiv (w64 (a0 - 1)) 100)) fun v3 =>
 (lt (w64 (w64 (v1+v2) - v3)) fun v4 =>
 (lt (w64 (Int.tdiv (w64 (a0 - 1)) 400)) fun v5 =>
 (lt (w64 (w64 (v4+v5)+(-719162))) fun v6 =>
 K v6))))))
def Xq16:Tq16:=Yq16
def Jq16 (X:Tq16):Inst:=mkI 153 mpL2 .nil mpL2 .nil X
def Iq16:Inst:=Jq16 Xq16
theorem Eq16:EqF Tryz.prog 18 gives Tryz.f153 [] [] (Jq16 (Yq16)):=fun x y K=>by kernel_rfl
theorem Iq16_ok:InstOk Tryz.prog G.1 Iq16:=iok (gives:=gives) [] okNil 18 follows Tryz.func153 (by kernel_rfl) (fun x=>by kernel_rfl) (Eq16)
abbrev Tq1m:Type:=Int→(Bool→Prop)→Prop
def Yq1m (a0:Int) (K:Bool→Prop):Prop :=
 (if (Int.tmod a0 (4 :Int) == 0) then
 (if (Int.tmod a0 (100 :Int) != 0) then
 K true
 else
 K (Int.tmod a0 (400 :Int) == 0))
 else
 K (Int.tmod a0 (400 :Int) == 0))
def Xq1m:Tq1m:=Yq1m
def Jq1m (X:Tq1m):Inst:=mkI 191 mpL2 .nil mpL3 .nil X
def Iq1m:Inst:=Jq1m Xq1m
theorem Eq1m:EqF Tryz.prog 16 gives Tryz.f191 [] [] (Jq1m (Yq1m)):=fun x y K=>by kernel_rfl
theorem Iq1m_ok:InstOk Tryz.prog G.1 Iq1m:=iok (gives:=gives) [] okNil 16 follows Tryz.func191 (by kernel_rfl) (fun x=>by kernel_rfl) (Eq1m)
abbrev Tq1v:Type:=Int→Int→(Int→Prop)→Prop
def Yq1v (xq1m:Tq1m) (a0:Int) (a1:Int) (K:Int→Prop):Prop :=
 (if (a1 == 2) then
 xq1m a0 (fun r2 =>
 (if r2 then
 K 29
 else
 (if 0≤w64 (a1 - 1)∧w64 (a1 - 1) < 12 then
 (Eng.asInt IntKind.i64 (Eng.getC [Eng.V.c (Value.int IntKind.i64 31),Eng.V.c (Value.int IntKind.i64 28),Eng.V.c (Value.int IntKind.i64 31),Eng.V.c (Value.int IntKind.i64 30),Eng.V.c (Value.int IntKind.i64 31),Eng.V.c (Value.int IntKind.i64 30),Eng.V.c (Value.int IntKind.i64 31),Eng.V.c (Value.int IntKind.i64 31),Eng.V.c (Value.int IntKind.i64 30),Eng.V.c (Value.int IntKind.i64 31),Eng.V.c (Value.int IntKind.i64 30),Eng.V.c (Value.int IntKind.i64 31)] (Int.toNat (w64 (a1 - 1))) (0:Nat)) False fun n3 =>
 K n3)
 else
 False)))
 else
 (if 0≤w64 (a1 - 1)∧w64 (a1 - 1) < 12 then
 (Eng.asInt IntKind.i64 (Eng.getC [Eng.V.c (Value.int IntKind.i64 31),Eng.V.c (Value.int IntKind.i64 28),Eng.V.c (Value.int IntKind.i64 31),Eng.V.c (Value.int IntKind.i64 30),Eng.V.c (Value.int IntKind.i64 31),Eng.V.c (Value.int IntKind.i64 30),Eng.V.c (Value.int IntKind.i64 31),Eng.V.c (Value.int IntKind.i64 31),Eng.V.c (Value.int IntKind.i64 30),Eng.V.c (Value.int IntKind.i64 31),Eng.V.c (Value.int IntKind.i64 30),Eng.V.c (Value.int IntKind.i64 31)] (Int.toNat (w64 (a1 - 1))) (0:Nat)) False fun n4 =>
 K n4)
 else
 False))
def Xq1v:Tq1v:=Yq1v Xq1m
def Jq1v (X:Tq1v):Inst:=mkI 154 mpL0 .nil mpL2 .nil X
def Iq1v:Inst:=Jq1v Xq1v
theorem Eq1v (xq1m:Tq1m):EqF Tryz.prog 18 gives Tryz.f154 [Jq1m xq1m] [] (Jq1v (Yq1v xq1m)):=fun x y K=>by kernel_rfl
theorem Iq1v_ok:InstOk Tryz.prog G.1 Iq1v:=iok (gives:=gives) [] (okCons Iq1m_ok okNil) 18 follows Tryz.func154 (by kernel_rfl) (fun x=>by kernel_rfl) (Eq1v Xq1m)
abbrev Tq1u:Type:=Int→(Int→Int→Int→Bool→Prop)→Prop
def Lq1u_1 (xq1v:Tq1v) (K:Int→Int→Int→Bool→Prop) (k2:mQ4→Prop):(mQ5→Prop)→mQ5→Prop:=fun k6 x7 =>
 xq1v x7.1.2.2.2.2.1 x7.1.2.2.2.2.2.2.1 (fun r8 =>
 (if decide (x7.1.2.2.2.2.2.1≥r8) then
 xq1v x7.1.2.2.2.2.1 x7.1.2.2.2.2.2.2.1 (fun r9 =>
 k6 ((x7.1.1,x7.1.2.1,x7.1.2.2.1,x7.1.2.2.2.1,x7.1.2.2.2.2.1,w64 (x7.1.2.2.2.2.2.1 - r9),w64 (x7.1.2.2.2.2.2.2.1+1),()),()))
 else
 K x7.1.2.2.2.2.1 x7.1.2.2.2.2.2.2.1 (w64 (x7.1.2.2.2.2.2.1+1)) true))
def Lq1u_1p:Lp:=⟨508,[.trim 508],mpT6,.nil,0⟩
def Lq1u_0 (xq16:Tq16) (xq1v:Tq1v) (K:Int→Int→Int→Bool→Prop):(mQ4→Prop)→mQ4→Prop:=fun k2 x3 =>
 xq16 (w64 (x3.1.2.2.2.2.2.1+1)) (fun r4 =>
 (if decide (r4≤x3.1.1) then
 k2 ((x3.1.1,x3.1.2.1,x3.1.2.2.1,x3.1.2.2.2.1,x3.1.2.2.2.2.1,w64 (x3.1.2.2.2.2.2.1+1),()),())
 else
 xq16 x3.1.2.2.2.2.2.1 (fun r5 =>
 lp (Lq1u_1 xq1v K k2) ((x3.1.2.1,x3.1.2.2.1,x3.1.2.2.2.1,x3.1.2.2.2.2.1,x3.1.2.2.2.2.2.1,w64 (x3.1.1 - r5),1,()),()))))
def Lq1u_0p:Lp:=⟨125,[.trim 125],mpT7,.nil,0⟩
def Yq1u (xq16:Tq16) (xq1v:Tq1v) (a0:Int) (K:Int→Int→Int→Bool→Prop):Prop :=
 (if decide (a0 < (-719162)) then
 K 0 0 0 false
 else
 (if decide (a0 > 2932896) then
 K 0 0 0 false
 else
 (lt (w64 (Int.tdiv (w64 (a0 - (-719162))) 366)) fun v1 =>
 lp (Lq1u_0 xq16 xq1v K) ((a0,0,0,0,false,w64 (v1+1),()),()))))
def Xq1u:Tq1u:=Yq1u Xq16 Xq1v
def Jq1u (X:Tq1u):Inst:=mkI 148 mpL2 .nil mpL8 .nil X
def Iq1u:Inst:=Jq1u Xq1u
theorem Eq1u (xq16:Tq16) (xq1v:Tq1v):EqF Tryz.prog 46 gives Tryz.f148 [Jq16 xq16,Jq1v xq1v] [Lq1u_0p,Lq1u_1p] (Jq1u (Yq1u xq16 xq1v)):=fun x y K=>by kernel_rfl
theorem Iq1u_ok:InstOk Tryz.prog G.1 Iq1u:=iok (gives:=gives) [Lq1u_0p,Lq1u_1p] (okCons Iq16_ok (okCons Iq1v_ok okNil)) 46 follows Tryz.func148 (by kernel_rfl) (fun x=>by kernel_rfl) (Eq1u Xq16 Xq1v)
abbrev Tq2b:Type:=Int→(Bool→Prop)→Prop
def Yq2b (xq1u:Tq1u) (xq1v:Tq1v) (a0:Int) (K:Bool→Prop):Prop :=
 xq1u a0 (fun r1 r2 r3 r4 =>
 (if r4 then
 xq1v r1 r2 (fun r5 =>
 K (r3 == r5))
 else
 K false))
def Xq2b:Tq2b:=Yq2b Xq1u Xq1v
def Jq2b (X:Tq2b):Inst:=mkI 271 mpL2 .nil mpL3 .nil X
def Iq2b:Inst:=Jq2b Xq2b
theorem Eq2b (xq1u:Tq1u) (xq1v:Tq1v):EqF Tryz.prog 22 gives Tryz.f271 [Jq1u xq1u,Jq1v xq1v] [] (Jq2b (Yq2b xq1u xq1v)):=fun x y K=>by kernel_rfl
theorem Iq2b_ok:InstOk Tryz.prog G.1 Iq2b:=iok (gives:=gives) [] (okCons Iq1u_ok (okCons Iq1v_ok okNil)) 22 follows Tryz.func271 (by kernel_rfl) (fun x=>by kernel_rfl) (Eq2b Xq1u Xq1v)
abbrev Tq1f:Type:=mQ9→Int→(Int→Prop)→Prop
def Yq1f (xq2b:Tq2b) (a0:mQ9) (a1:Int) (K:Int→Prop):Prop :=
 (if 0≤a1∧a1 < (↑(List.length a0.1):Int) then
 (Eng.asInt IntKind.i64 (Eng.getC a0.1 (Int.toNat a1) (0:Nat)) False fun n2 =>
 (Eng.asInt IntKind.i64 (Eng.getC a0.1 (Int.toNat a1) (1:Nat)) False fun n3 =>
 (Eng.asBool (Eng.getC a0.1 (Int.toNat a1) (2:Nat)) False fun b4 =>
 (if decide (a1≥200) then
 K 8
 else
 (if decide (n2 < 730) then
 K 9
 else
 (if decide (n2≥2932896) then
 K 9
 else
 xq2b n2 (fun r5 =>
 (if (!r5) then
 K 5
 else
 (if (n3 != 1) then
 (if (n3 != (-1)) then
 K 6
 else
 (if decide (a1 > 0) then
 (if 0≤w64 (a1 - 1)∧w64 (a1 - 1) < (↑(List.length a0.1):Int) then
 (Eng.asInt IntKind.i64 (Eng.getC a0.1 (Int.toNat (w64 (a1 - 1))) (0:Nat)) False fun n6 =>
 (if decide (n2≤n6) then
 K 4
 else
 K 0))
 else
 False)
 else
 K 0))
 else
 (if decide (a1 > 0) then
 (if 0≤w64 (a1 - 1)∧w64 (a1 - 1) < (↑(List.length a0.1):Int) then
 (Eng.asInt IntKind.i64 (Eng.getC a0.1 (Int.toNat (w64 (a1 - 1))) (0:Nat)) False fun n7 =>
 (if decide (n2≤n7) then
 K 4
 else
 K 0))
 else
 False)
 else
 K 0))))))))))
 else
 False)
def Xq1f:Tq1f:=Yq1f Xq2b
def Jq1f (X:Tq1f):Inst:=mkI 256 mpL10 .nil mpL2 .nil X
def Iq1f:Inst:=Jq1f Xq1f
theorem Eq1f (xq2b:Tq2b):EqF Tryz.prog 47 gives Tryz.f256 [Jq2b xq2b] [] (Jq1f (Yq1f xq2b)):=fun x y K=>by kernel_rfl
theorem Iq1f_ok:InstOk Tryz.prog G.1 Iq1f:=iok (gives:=gives) [] (okCons Iq2b_ok okNil) 47 follows Tryz.func256 (by kernel_rfl) (fun x=>by kernel_rfl) (Eq1f Xq2b)
abbrev Tq1k:Type:=mQ9→(Int→Int→Prop)→Prop
def Lq1k_0 (xq1f:Tq1f) (K:Int→Int→Prop):(mQ11→Prop)→mQ11→Prop:=fun k1 x2 =>
 (if decide (x2.1.2.2.2.2.1 < (↑(List.length x2.2.1.1):Int)) then
 xq1f x2.2.1 x2.1.2.2.2.2.1 (fun r3 =>
 (if (r3 != 0) then
 K x2.1.2.2.2.2.1 r3
 else
 (if 0≤x2.1.2.2.2.2.1∧x2.1.2.2.2.2.1 < (↑(List.length x2.2.1.1):Int) then
 (Eng.asInt IntKind.i64 (Eng.getC x2.2.1.1 (Int.toNat x2.1.2.2.2.2.1) (0:Nat)) False fun n4 =>
 (lt (w64 (86400 * w64 (n4+1))) fun v5 =>
 k1 (((),x2.1.2.1,x2.1.2.2.1,v5,w64 (x2.1.2.2.2.2.1+1),()),x2.2)))
 else
 False)))
 else
 (if x2.2.1.2.1 then
 (if decide (x2.2.1.2.2.1 < x2.1.2.2.2.1) then
 K (↑(List.length x2.2.1.1):Int) 9
 else
 (if decide (x2.2.1.2.2.1 > 253402300799) then
 K (↑(List.length x2.2.1.1):Int) 9
 else
 (if (!x2.2.1.2.1) then
 (if (x2.2.1.2.2.1 != 0) then
 K (↑(List.length x2.2.1.1):Int) 9
 else
 K (↑(List.length x2.2.1.1):Int) 0)
 else
 K (↑(List.length x2.2.1.1):Int) 0)))
 else
 (if (!x2.2.1.2.1) then
 (if (x2.2.1.2.2.1 != 0) then
 K (↑(List.length x2.2.1.1):Int) 9
 else
 K (↑(List.length x2.2.1.1):Int) 0)
 else
 K (↑(List.length x2.2.1.1):Int) 0)))
def Lq1k_0p:Lp:=⟨62,[.trim 62],mpT12,mpH13,0⟩
def Yq1k (xq1f:Tq1f) (a0:mQ9) (K:Int→Int→Prop):Prop :=
 lp (Lq1k_0 xq1f K) (((),0,0,63072000,0,()),a0,())
def Xq1k:Tq1k:=Yq1k Xq1f
def Jq1k (X:Tq1k):Inst:=mkI 240 mpL14 .nil mpL0 .nil X
def Iq1k:Inst:=Jq1k Xq1k
theorem Eq1k (xq1f:Tq1f):EqF Tryz.prog 58 gives Tryz.f240 [Jq1f xq1f] [Lq1k_0p] (Jq1k (Yq1k xq1f)):=fun x y K=>by kernel_rfl
theorem Iq1k_ok:InstOk Tryz.prog G.1 Iq1k:=iok (gives:=gives) [Lq1k_0p] (okCons Iq1f_ok okNil) 58 follows Tryz.func240 (by kernel_rfl) (fun x=>by kernel_rfl) (Eq1k Xq1f)
abbrev Tq0t:Type:=mQ9→(Bool→Prop)→Prop
def Yq0t (xq1k:Tq1k) (a0:mQ9) (K:Bool→Prop):Prop :=
 xq1k a0 (fun r1 r2 =>
 K (r2 == 0))
def Xq0t:Tq0t:=Yq0t Xq1k
def Jq0t (X:Tq0t):Inst:=mkI 215 mpL14 .nil mpL3 .nil X
def Iq0t:Inst:=Jq0t Xq0t
theorem Eq0t (xq1k:Tq1k):EqF Tryz.prog 12 gives Tryz.f215 [Jq1k xq1k] [] (Jq0t (Yq0t xq1k)):=fun x y K=>by kernel_rfl
theorem Iq0t_ok:InstOk Tryz.prog G.1 Iq0t:=iok (gives:=gives) [] (okCons Iq1k_ok okNil) 12 follows Tryz.func215 (by kernel_rfl) (fun x=>by kernel_rfl) (Eq0t Xq1k)
abbrev Tq10:Type:=(List Eng.V)→(mQ15→Bool→(List Eng.V)→Bool→Bool→Prop)→Prop
def Lq10_0 (xq2j:Tq2j) (xq0t:Tq0t) (K:mQ15→Bool→(List Eng.V)→Bool→Bool→Prop):(mQ16→Prop)→mQ16→Prop:=fun k2 x3 =>
 (if decide (x3.1.2.2.2.2.2.2.1 < x3.1.2.2.2.2.1) then
 (if 0≤x3.1.2.2.2.2.2.2.1∧x3.1.2.2.2.2.2.2.1 < (↑(List.length x3.1.1):Int) then
 (Eng.asInt IntKind.i64 (Eng.getC x3.1.1 (Int.toNat x3.1.2.2.2.2.2.2.1) (1:Nat)) False fun n4 =>
 (if 0≤x3.1.2.2.2.2.2.2.1∧x3.1.2.2.2.2.2.2.1 < (↑(List.length x3.1.1):Int) then
 (Eng.asInt IntKind.i64 (Eng.getC x3.1.1 (Int.toNat x3.1.2.2.2.2.2.2.1) (0:Nat)) False fun n5 =>
 (if decide (w64 (n4 - x3.1.2.2.2.2.2.1) < 0) then
 (lt (w64 (w64 (n5 - x3.1.2.2.2.2.2.1)+1)) fun v6 =>
 xq2j v6 86400 (fun r7 r8 r9 =>
 (if (r8 != 0) then
 K ((),false,0,()) false [] true true
 else
 (if Eng.roomOk (List.length x3.2.2.2.1+List.length [Eng.V.agg [Eng.V.c (Value.int IntKind.i64 (w64 (r7 - 1))),Eng.V.c (Value.int IntKind.i64 (w64 (n4 - x3.1.2.2.2.2.2.1))),Eng.V.c (Value.bool false)]]) (24:Nat) then
 (lt (x3.2.2.2.1++[Eng.V.agg [Eng.V.c (Value.int IntKind.i64 (w64 (r7 - 1))),Eng.V.c (Value.int IntKind.i64 (w64 (n4 - x3.1.2.2.2.2.2.1))),Eng.V.c (Value.bool false)]]) fun v10 =>
 (if 0≤x3.1.2.2.2.2.2.2.1∧x3.1.2.2.2.2.2.2.1 < (↑(List.length x3.1.1):Int) then
 (Eng.asInt IntKind.i64 (Eng.getC x3.1.1 (Int.toNat x3.1.2.2.2.2.2.2.1) (1:Nat)) False fun n11 =>
 k2 ((x3.1.1,(),x3.1.2.2.1,(),x3.1.2.2.2.2.1,n11,w64 (x3.1.2.2.2.2.2.2.1+1),()),((),x3.2.1.2),((),x3.2.2.1.2),v10,()))
 else
 False))
 else
 False))))
 else
 xq2j (w64 (n5 - x3.1.2.2.2.2.2.1)) 86400 (fun r12 r13 r14 =>
 (if (r13 != 0) then
 K ((),false,0,()) false [] true true
 else
 (if Eng.roomOk (List.length x3.2.2.2.1+List.length [Eng.V.agg [Eng.V.c (Value.int IntKind.i64 (w64 (r12 - 1))),Eng.V.c (Value.int IntKind.i64 (w64 (n4 - x3.1.2.2.2.2.2.1))),Eng.V.c (Value.bool false)]]) (24:Nat) then
 (lt (x3.2.2.2.1++[Eng.V.agg [Eng.V.c (Value.int IntKind.i64 (w64 (r12 - 1))),Eng.V.c (Value.int IntKind.i64 (w64 (n4 - x3.1.2.2.2.2.2.1))),Eng.V.c (Value.bool false)]]) fun v15 =>
 (if 0≤x3.1.2.2.2.2.2.2.1∧x3.1.2.2.2.2.2.2.1 < (↑(List.length x3.1.1):Int) then
 (Eng.asInt IntKind.i64 (Eng.getC x3.1.1 (Int.toNat x3.1.2.2.2.2.2.2.1) (1:Nat)) False fun n16 =>
 k2 ((x3.1.1,(),x3.1.2.2.1,(),x3.1.2.2.2.2.1,n16,w64 (x3.1.2.2.2.2.2.2.1+1),()),((),x3.2.1.2),((),x3.2.2.1.2),v15,()))
 else
 False))
 else
 False)))))
 else
 False))
 else
 False)
 else
 (if decide (x3.1.2.2.2.2.1 < (↑(List.length x3.1.1):Int)) then
 (if 0≤x3.1.2.2.2.2.1∧x3.1.2.2.2.2.1 < (↑(List.length x3.1.1):Int) then
 (Eng.asInt IntKind.i64 (Eng.getC x3.1.1 (Int.toNat x3.1.2.2.2.2.1) (0:Nat)) False fun n17 =>
 xq0t (x3.2.2.2.1,true,w64 (n17 - x3.1.2.2.2.2.2.1),()) (fun r18 =>
 (if (!r18) then
 K ((),false,0,()) false [] true true
 else
 K ((),true,w64 (n17 - x3.1.2.2.2.2.2.1),()) true x3.2.2.2.1 true false)))
 else
 False)
 else
 xq0t (x3.2.2.2.1,x3.2.2.1.2) (fun r19 =>
 (if (!r19) then
 K ((),false,0,()) false [] true true
 else
 K ((),x3.2.2.1.2) true x3.2.2.2.1 true false))))
def Lq10_0p:Lp:=⟨253,[.trim 253,.trim 253,.fatC 128 0 3 1648,.trim 253],mpT17,mpH18,0⟩
def Yq10 (xq1h:Tq1h) (xq2j:Tq2j) (xq0t:Tq0t) (a0:(List Eng.V)) (K:mQ15→Bool→(List Eng.V)→Bool→Bool→Prop):Prop :=
 xq1h a0 (fun r1 =>
 lp (Lq10_0 xq2j xq0t K) ((a0,(),false,(),r1,0,0,()),((),false,0,()),((),false,0,()),[],()))
def Xq10:Tq10:=Yq10 Xq1h Xq2j Xq0t
def Jq10 (X:Tq10):Inst:=mkI 183 mpL19 .nil mpL20 mpH21 X
def Iq10:Inst:=Jq10 Xq10
theorem Eq10 (xq1h:Tq1h) (xq2j:Tq2j) (xq0t:Tq0t):EqF Tryz.prog 79 gives Tryz.f183 [Jq1h xq1h,Jq2j xq2j,Jq0t xq0t] [Lq10_0p] (Jq10 (Yq10 xq1h xq2j xq0t)):=fun x y K=>by kernel_rfl
theorem Iq10_ok:InstOk Tryz.prog G.1 Iq10:=iok (gives:=gives) [Lq10_0p] (okCons Iq1h_ok (okCons Iq2j_ok (okCons Iq0t_ok okNil))) 79 follows Tryz.func183 (by kernel_rfl) (fun x=>by kernel_rfl) (Eq10 Xq1h Xq2j Xq0t)
abbrev Tq0w:Type:=(List Eng.V)→(mQ15→Bool→(List Eng.V)→Bool→Bool→Prop)→Prop
def Yq0w (xq18:Tq18) (xq10:Tq10) (a0:(List Eng.V)) (K:mQ15→Bool→(List Eng.V)→Bool→Bool→Prop):Prop :=
 xq18 a0 (fun r1 =>
 (if (!r1) then
 K ((),false,0,()) false [] true true
 else
 xq10 a0 (fun r2 r3 r4 r5 r6 =>
 K ((),r2.2) r3 r4 r5 r6)))
def Xq0w:Tq0w:=Yq0w Xq18 Xq10
def Jq0w (X:Tq0w):Inst:=mkI 136 mpL19 .nil mpL20 mpH21 X
def Iq0w:Inst:=Jq0w Xq0w
theorem Eq0w (xq18:Tq18) (xq10:Tq10):EqF Tryz.prog 12 gives Tryz.f136 [Jq18 xq18,Jq10 xq10] [] (Jq0w (Yq0w xq18 xq10)):=fun x y K=>by kernel_rfl
theorem Iq0w_ok:InstOk Tryz.prog G.1 Iq0w:=iok (gives:=gives) [] (okCons Iq18_ok (okCons Iq10_ok okNil)) 12 follows Tryz.func136 (by kernel_rfl) (fun x=>by kernel_rfl) (Eq0w Xq18 Xq10)
abbrev Tq1d:Type:=(List Eng.V)→(Bool→Prop)→Prop
def Yq1d (xq0w:Tq0w) (a0:(List Eng.V)) (K:Bool→Prop):Prop :=
 xq0w a0 (fun r1 r2 r3 r4 r5 =>
 K r2)
def Xq1d:Tq1d:=Yq1d Xq0w
def Jq1d (X:Tq1d):Inst:=mkI 97 mpL19 .nil mpL3 .nil X
def Iq1d:Inst:=Jq1d Xq1d
theorem Eq1d (xq0w:Tq0w):EqF Tryz.prog 11 gives Tryz.f97 [Jq0w xq0w] [] (Jq1d (Yq1d xq0w)):=fun x y K=>by kernel_rfl
theorem Iq1d_ok:InstOk Tryz.prog G.1 Iq1d:=iok (gives:=gives) [] (okCons Iq0w_ok okNil) 11 follows Tryz.func97 (by kernel_rfl) (fun x=>by kernel_rfl) (Eq1d Xq0w)
abbrev Tq17:Type:=mQ22→(Bool→Prop)→Prop
def Yq17 (xq1l:Tq1l) (xq1d:Tq1d) (a0:mQ22) (K:Bool→Prop):Prop :=
 xq1l a0 (fun r1 =>
 xq1d a0.2.2.1 (fun r2 =>
 (if r1 then
 K r2
 else
 K false)))
def Xq17:Tq17:=Yq17 Xq1l Xq1d
def Jq17 (X:Tq17):Inst:=mkI 36 mpL23 .nil mpL3 .nil X
def Iq17:Inst:=Jq17 Xq17
theorem Eq17 (xq1l:Tq1l) (xq1d:Tq1d):EqF Tryz.prog 14 gives Tryz.f36 [Jq1l xq1l,Jq1d xq1d] [] (Jq17 (Yq17 xq1l xq1d)):=fun x y K=>by kernel_rfl
theorem Iq17_ok:InstOk Tryz.prog G.1 Iq17:=iok (gives:=gives) [] (okCons Iq1l_ok (okCons Iq1d_ok okNil)) 14 follows Tryz.func36 (by kernel_rfl) (fun x=>by kernel_rfl) (Eq17 Xq1l Xq1d)
abbrev Tq2i:Type:=(List Eng.V)→(Int→Bool→Prop)→Prop
def Yq2i (xq0w:Tq0w) (xq0m:Tq0m) (a0:(List Eng.V)) (K:Int→Bool→Prop):Prop :=
 xq0w a0 (fun r1 r2 r3 r4 r5 =>
 xq0m a0 (fun r6 r7 =>
 (if (!r2) then
 K 0 false
 else
 (if (!r7) then
 K 0 false
 else
 K (w64 (r6 - 63072000)) true))))
def Xq2i:Tq2i:=Yq2i Xq0w Xq0m
def Jq2i (X:Tq2i):Inst:=mkI 137 mpL19 .nil mpL24 .nil X
def Iq2i:Inst:=Jq2i Xq2i
theorem Eq2i (xq0w:Tq0w) (xq0m:Tq0m):EqF Tryz.prog 26 gives Tryz.f137 [Jq0w xq0w,Jq0m xq0m] [] (Jq2i (Yq2i xq0w xq0m)):=fun x y K=>by kernel_rfl
theorem Iq2i_ok:InstOk Tryz.prog G.1 Iq2i:=iok (gives:=gives) [] (okCons Iq0w_ok (okCons Iq0m_ok okNil)) 26 follows Tryz.func137 (by kernel_rfl) (fun x=>by kernel_rfl) (Eq2i Xq0w Xq0m)
abbrev Tq2e:Type:=(List Eng.V)→Int→(Int→Int→Int→Prop)→Prop
def Lq2e_0 (K:Int→Int→Int→Prop):(mQ25→Prop)→mQ25→Prop:=fun k9 x10 =>
 (if decide (x10.1.2.2.2.2.2.2.1 < (↑(List.length x10.2.2.1.1):Int)) then
 (if 0≤x10.1.2.2.2.2.2.2.1∧x10.1.2.2.2.2.2.2.1 < (↑(List.length x10.2.2.1.1):Int) then
 (Eng.asInt IntKind.i64 (Eng.getC x10.2.2.1.1 (Int.toNat x10.1.2.2.2.2.2.2.1) (0:Nat)) False fun n11 =>
 (lt (w64 (86400 * w64 (n11 - x10.1.2.2.2.2.2.1))) fun v12 =>
 (if decide (x10.1.2.2.2.2.1 < v12) then
 (lt (w64 (x10.1.2.2.2.2.2.1+w64 (Int.tdiv x10.1.2.2.2.2.1 86400))) fun v13 =>
 (if decide (v13 > 2932896) then
 K 0 0 9
 else
 K v13 (Int.tmod x10.1.2.2.2.2.1 86400) 0))
 else
 (lt (w64 (86400 * w64 (n11 - x10.1.2.2.2.2.2.1))) fun v14 =>
 (if 0≤x10.1.2.2.2.2.2.2.1∧x10.1.2.2.2.2.2.2.1 < (↑(List.length x10.2.2.1.1):Int) then
 (Eng.asInt IntKind.i64 (Eng.getC x10.2.2.1.1 (Int.toNat x10.1.2.2.2.2.2.2.1) (0:Nat)) False fun n15 =>
 (if 0≤x10.1.2.2.2.2.2.2.1∧x10.1.2.2.2.2.2.2.1 < (↑(List.length x10.2.2.1.1):Int) then
 (Eng.asInt IntKind.i64 (Eng.getC x10.2.2.1.1 (Int.toNat x10.1.2.2.2.2.2.2.1) (1:Nat)) False fun n16 =>
 (lt (decide (w64 (x10.1.2.2.2.2.1 - v14) < w64 (86400+n16))) fun v17 =>
 (if v17 then
 K n15 (w64 (x10.1.2.2.2.2.1 - v14)) 0
 else
 (lt (w64 (w64 (x10.1.2.2.2.2.1 - v14) - 86400)) fun v18 =>
 (if 0≤x10.1.2.2.2.2.2.2.1∧x10.1.2.2.2.2.2.2.1 < (↑(List.length x10.2.2.1.1):Int) then
 (Eng.asInt IntKind.i64 (Eng.getC x10.2.2.1.1 (Int.toNat x10.1.2.2.2.2.2.2.1) (1:Nat)) False fun n19 =>
 k9 ((x10.1.1,x10.1.2.1,x10.1.2.2.1,(),w64 (v18 - n19),w64 (n15+1),w64 (x10.1.2.2.2.2.2.2.1+1),()),((),x10.2.1.2),x10.2.2))
 else
 False)))))
 else
 False))
 else
 False)))))
 else
 False)
 else
 (lt (w64 (x10.1.2.2.2.2.2.1+w64 (Int.tdiv x10.1.2.2.2.2.1 86400))) fun v20 =>
 (if decide (v20 > 2932896) then
 K 0 0 9
 else
 K v20 (Int.tmod x10.1.2.2.2.2.1 86400) 0)))
def Lq2e_0p:Lp:=⟨14576,[.trim 14576],mpT26,mpH27,0⟩
def Yq2e (xq0w:Tq0w) (xq2i:Tq2i) (a0:(List Eng.V)) (a1:Int) (K:Int→Int→Int→Prop):Prop :=
 xq0w a0 (fun r2 r3 r4 r5 r6 =>
 (if (!r3) then
 K 0 0 1
 else
 (if decide (a1 < 0) then
 K 0 0 9
 else
 xq2i a0 (fun r7 r8 =>
 (if r8 then
 (if decide (a1≥r7) then
 K 0 0 10
 else
 lp (Lq2e_0 K) ((0,0,0,(),a1,730,0,()),((),r2.2),(r4,r5,r6),()))
 else
 lp (Lq2e_0 K) ((0,0,0,(),a1,730,0,()),((),r2.2),(r4,r5,r6),()))))))
def Xq2e:Tq2e:=Yq2e Xq0w Xq2i
def Jq2e (X:Tq2e):Inst:=mkI 77 mpL28 .nil mpL29 .nil X
def Iq2e:Inst:=Jq2e Xq2e
theorem Eq2e (xq0w:Tq0w) (xq2i:Tq2i):EqF Tryz.prog 96 gives Tryz.f77 [Jq0w xq0w,Jq2i xq2i] [Lq2e_0p] (Jq2e (Yq2e xq0w xq2i)):=fun x y K=>by kernel_rfl
theorem Iq2e_ok:InstOk Tryz.prog G.1 Iq2e:=iok (gives:=gives) [Lq2e_0p] (okCons Iq0w_ok (okCons Iq2i_ok okNil)) 96 follows Tryz.func77 (by kernel_rfl) (fun x=>by kernel_rfl) (Eq2e Xq0w Xq2i)
abbrev Tq2p:Type:=Int→Int→(Int→Bool→Prop)→Prop
def Yq2p (a0:Int) (a1:Int) (K:Int→Bool→Prop):Prop :=
 (if decide (a0 < (-719162)) then
 K 0 false
 else
 (if decide (a0 > 2932896) then
 K 0 false
 else
 (if decide (a1 < 0) then
 K 0 false
 else
 (if decide (a1 > 86400) then
 K 0 false
 else
 (lt (w64 (w64 (86400 * a0)+if 86399 < a1 then 86399 else a1)) fun v2 =>
 K v2 true)))))
def Xq2p:Tq2p:=Yq2p
def Jq2p (X:Tq2p):Inst:=mkI 138 mpL0 .nil mpL24 .nil X
def Iq2p:Inst:=Jq2p Xq2p
theorem Eq2p:EqF Tryz.prog 25 gives Tryz.f138 [] [] (Jq2p (Yq2p)):=fun x y K=>by kernel_rfl
theorem Iq2p_ok:InstOk Tryz.prog G.1 Iq2p:=iok (gives:=gives) [] okNil 25 follows Tryz.func138 (by kernel_rfl) (fun x=>by kernel_rfl) (Eq2p)
abbrev Tq1n:Type:=(List Eng.V)→Int→(Int→Int→Prop)→Prop
def Yq1n (xq2e:Tq2e) (xq2p:Tq2p) (a0:(List Eng.V)) (a1:Int) (K:Int→Int→Prop):Prop :=
 xq2e a0 a1 (fun r2 r3 r4 =>
 (if (r4 != 0) then
 K 0 r4
 else
 xq2p r2 r3 (fun r5 r6 =>
 K r5 0)))
def Xq1n:Tq1n:=Yq1n Xq2e Xq2p
def Jq1n (X:Tq1n):Inst:=mkI 78 mpL28 .nil mpL0 .nil X
def Iq1n:Inst:=Jq1n Xq1n
theorem Eq1n (xq2e:Tq2e) (xq2p:Tq2p):EqF Tryz.prog 28 gives Tryz.f78 [Jq2e xq2e,Jq2p xq2p] [] (Jq1n (Yq1n xq2e xq2p)):=fun x y K=>by kernel_rfl
theorem Iq1n_ok:InstOk Tryz.prog G.1 Iq1n:=iok (gives:=gives) [] (okCons Iq2e_ok (okCons Iq2p_ok okNil)) 28 follows Tryz.func78 (by kernel_rfl) (fun x=>by kernel_rfl) (Eq1n Xq2e Xq2p)
abbrev Tq15:Type:=mQ22→Int→(Int→Prop)→Prop
def Lq15_0 (K:Int→Prop):(mQ30→Prop)→mQ30→Prop:=fun k2 x3 =>
 (if decide (x3.1.2.2.2.2.1 < (↑(List.length x3.2.1.2.1):Int)) then
 (if 0≤x3.1.2.2.2.2.1∧x3.1.2.2.2.2.1 < (↑(List.length x3.2.1.2.1):Int) then
 (Eng.asInt IntKind.i64 (Eng.getC x3.2.1.2.1 (Int.toNat x3.1.2.2.2.2.1) (0:Nat)) False fun n4 =>
 (if decide (n4≤x3.1.1) then
 k2 ((x3.1.1,(),x3.1.2.2.1,x3.1.2.2.2.2.1,w64 (x3.1.2.2.2.2.1+1),()),x3.2)
 else
 k2 ((x3.1.1,(),x3.1.2.2.1,x3.1.2.2.2.1,w64 (x3.1.2.2.2.2.1+1),()),x3.2)))
 else
 False)
 else
 K x3.1.2.2.2.1)
def Lq15_0p:Lp:=⟨118,[.trim 118],mpT31,mpH32,0⟩
def Yq15 (a0:mQ22) (a1:Int) (K:Int→Prop):Prop :=
 lp (Lq15_0 K) ((a1,(),0,(-1),0,()),a0,())
def Xq15:Tq15:=Yq15
def Jq15 (X:Tq15):Inst:=mkI 139 mpL33 .nil mpL2 .nil X
def Iq15:Inst:=Jq15 Xq15
theorem Eq15:EqF Tryz.prog 24 gives Tryz.f139 [] [Lq15_0p] (Jq15 (Yq15)):=fun x y K=>by kernel_rfl
theorem Iq15_ok:InstOk Tryz.prog G.1 Iq15:=iok (gives:=gives) [Lq15_0p] okNil 24 follows Tryz.func139 (by kernel_rfl) (fun x=>by kernel_rfl) (Eq15)
abbrev Tq2a:Type:=(List Eng.V)→Int→(Int→Prop)→Prop
def Lq2a_0 (xq1h:Tq1h) (K:Int→Prop):(mQ34→Prop)→mQ34→Prop:=fun k2 x3 =>
 xq1h x3.1.1 (fun r4 =>
 (if decide (x3.1.2.2.2.2.1 < r4) then
 (if 0≤x3.1.2.2.2.2.1∧x3.1.2.2.2.2.1 < (↑(List.length x3.1.1):Int) then
 (Eng.asInt IntKind.i64 (Eng.getC x3.1.1 (Int.toNat x3.1.2.2.2.2.1) (0:Nat)) False fun n5 =>
 (if decide (n5≤x3.1.2.1) then
 (if 0≤x3.1.2.2.2.2.1∧x3.1.2.2.2.2.1 < (↑(List.length x3.1.1):Int) then
 (Eng.asInt IntKind.i64 (Eng.getC x3.1.1 (Int.toNat x3.1.2.2.2.2.1) (1:Nat)) False fun n6 =>
 k2 ((x3.1.1,x3.1.2.1,x3.1.2.2.1,n6,w64 (x3.1.2.2.2.2.1+1),()),()))
 else
 False)
 else
 k2 ((x3.1.1,x3.1.2.1,x3.1.2.2.1,x3.1.2.2.2.1,w64 (x3.1.2.2.2.2.1+1),()),())))
 else
 False)
 else
 K x3.1.2.2.2.1))
def Lq2a_0p:Lp:=⟨115,[.trim 115],mpT35,.nil,0⟩
def Yq2a (xq1h:Tq1h) (a0:(List Eng.V)) (a1:Int) (K:Int→Prop):Prop :=
 lp (Lq2a_0 xq1h K) ((a0,a1,0,0,0,()),())
def Xq2a:Tq2a:=Yq2a Xq1h
def Jq2a (X:Tq2a):Inst:=mkI 186 mpL28 .nil mpL2 .nil X
def Iq2a:Inst:=Jq2a Xq2a
theorem Eq2a (xq1h:Tq1h):EqF Tryz.prog 26 gives Tryz.f186 [Jq1h xq1h] [Lq2a_0p] (Jq2a (Yq2a xq1h)):=fun x y K=>by kernel_rfl
theorem Iq2a_ok:InstOk Tryz.prog G.1 Iq2a:=iok (gives:=gives) [Lq2a_0p] (okCons Iq1h_ok okNil) 26 follows Tryz.func186 (by kernel_rfl) (fun x=>by kernel_rfl) (Eq2a Xq1h)
abbrev Tq1c:Type:=mQ22→Int→(Int→Prop)→Prop
def Yq1c (xq2a:Tq2a) (a0:mQ22) (a1:Int) (K:Int→Prop):Prop :=
 xq2a a0.2.2.1 a1 (fun r2 =>
 K (w64 (a1 - r2)))
def Xq1c:Tq1c:=Yq1c Xq2a
def Jq1c (X:Tq1c):Inst:=mkI 141 mpL33 .nil mpL2 .nil X
def Iq1c:Inst:=Jq1c Xq1c
theorem Eq1c (xq2a:Tq2a):EqF Tryz.prog 11 gives Tryz.f141 [Jq2a xq2a] [] (Jq1c (Yq1c xq2a)):=fun x y K=>by kernel_rfl
theorem Iq1c_ok:InstOk Tryz.prog G.1 Iq1c:=iok (gives:=gives) [] (okCons Iq2a_ok okNil) 11 follows Tryz.func141 (by kernel_rfl) (fun x=>by kernel_rfl) (Eq1c Xq2a)
abbrev Tq24:Type:=Int→Int→(Int→Bool→Prop)→Prop
def Yq24 (a0:Int) (a1:Int) (K:Int→Bool→Prop):Prop :=
 (if decide (a1 > 0) then
 (if decide (a0 > w64 (9223372036854775807 - a1)) then
 K 0 false
 else
 (if decide (a1 < 0) then
 (if decide (a0 < w64 ((-9223372036854775808) - a1)) then
 K 0 false
 else
 K (w64 (a0+a1)) true)
 else
 K (w64 (a0+a1)) true))
 else
 (if decide (a1 < 0) then
 (if decide (a0 < w64 ((-9223372036854775808) - a1)) then
 K 0 false
 else
 K (w64 (a0+a1)) true)
 else
 K (w64 (a0+a1)) true))
def Xq24:Tq24:=Yq24
def Jq24 (X:Tq24):Inst:=mkI 184 mpL0 .nil mpL24 .nil X
def Iq24:Inst:=Jq24 Xq24
theorem Eq24:EqF Tryz.prog 27 gives Tryz.f184 [] [] (Jq24 (Yq24)):=fun x y K=>by kernel_rfl
theorem Iq24_ok:InstOk Tryz.prog G.1 Iq24:=iok (gives:=gives) [] okNil 27 follows Tryz.func184 (by kernel_rfl) (fun x=>by kernel_rfl) (Eq24)
abbrev Tq1o:Type:=Int→Int→(Int→Bool→Prop)→Prop
def Yq1o (xq1v:Tq1v) (a0:Int) (a1:Int) (K:Int→Bool→Prop):Prop :=
 (if decide (a0 < 1) then
 K 0 false
 else
 (if decide (a0 > 9999) then
 K 0 false
 else
 (if decide (a1 < 1) then
 K 0 false
 else
 (if decide (a1 > 12) then
 K 0 false
 else
 xq1v a0 a1 (fun r2 =>
 K r2 true)))))
def Xq1o:Tq1o:=Yq1o Xq1v
def Jq1o (X:Tq1o):Inst:=mkI 152 mpL0 .nil mpL24 .nil X
def Iq1o:Inst:=Jq1o Xq1o
theorem Eq1o (xq1v:Tq1v):EqF Tryz.prog 23 gives Tryz.f152 [Jq1v xq1v] [] (Jq1o (Yq1o xq1v)):=fun x y K=>by kernel_rfl
theorem Iq1o_ok:InstOk Tryz.prog G.1 Iq1o:=iok (gives:=gives) [] (okCons Iq1v_ok okNil) 23 follows Tryz.func152 (by kernel_rfl) (fun x=>by kernel_rfl) (Eq1o Xq1v)
abbrev Tq0h:Type:=Int→Int→Int→(Int→Bool→Prop)→Prop
def Lq0h_0 (xq1v:Tq1v) (K:Int→Bool→Prop):(mQ36→Prop)→mQ36→Prop:=fun k7 x8 =>
 (if decide (x8.1.2.2.2.2.2.1 < x8.1.2.1) then
 xq1v x8.1.1 x8.1.2.2.2.2.2.1 (fun r9 =>
 k7 ((x8.1.1,x8.1.2.1,x8.1.2.2.1,x8.1.2.2.2.1,w64 (x8.1.2.2.2.2.1+r9),w64 (x8.1.2.2.2.2.2.1+1),()),()))
 else
 K x8.1.2.2.2.2.1 true)
def Lq0h_0p:Lp:=⟨3267,[.trim 3267],mpT37,.nil,0⟩
def Yq0h (xq1o:Tq1o) (xq16:Tq16) (xq1v:Tq1v) (a0:Int) (a1:Int) (a2:Int) (K:Int→Bool→Prop):Prop :=
 xq1o a0 a1 (fun r3 r4 =>
 (if (!r4) then
 K 0 false
 else
 (if decide (a2 < 1) then
 K 0 false
 else
 (if decide (a2 > r3) then
 K 0 false
 else
 xq16 a0 (fun r5 =>
 (lt (w64 (w64 (r5+a2) - 1)) fun v6 =>
 lp (Lq0h_0 xq1v K) ((a0,a1,0,false,v6,1,()),())))))))
def Xq0h:Tq0h:=Yq0h Xq1o Xq16 Xq1v
def Jq0h (X:Tq0h):Inst:=mkI 93 mpL29 .nil mpL24 .nil X
def Iq0h:Inst:=Jq0h Xq0h
theorem Eq0h (xq1o:Tq1o) (xq16:Tq16) (xq1v:Tq1v):EqF Tryz.prog 45 gives Tryz.f93 [Jq1o xq1o,Jq16 xq16,Jq1v xq1v] [Lq0h_0p] (Jq0h (Yq0h xq1o xq16 xq1v)):=fun x y K=>by kernel_rfl
theorem Iq0h_ok:InstOk Tryz.prog G.1 Iq0h:=iok (gives:=gives) [Lq0h_0p] (okCons Iq1o_ok (okCons Iq16_ok (okCons Iq1v_ok okNil))) 45 follows Tryz.func93 (by kernel_rfl) (fun x=>by kernel_rfl) (Eq0h Xq1o Xq16 Xq1v)
abbrev Tq1s:Type:=Int→(Int→Prop)→Prop
def Yq1s (a0:Int) (K:Int→Prop):Prop :=
 (lt (Int.tmod (w64 (Int.tmod a0 (7 :Int)+11)) 7) fun v1 =>
 K v1)
def Xq1s:Tq1s:=Yq1s
def Jq1s (X:Tq1s):Inst:=mkI 257 mpL2 .nil mpL2 .nil X
def Iq1s:Inst:=Jq1s Xq1s
theorem Eq1s:EqF Tryz.prog 7 gives Tryz.f257 [] [] (Jq1s (Yq1s)):=fun x y K=>by kernel_rfl
theorem Iq1s_ok:InstOk Tryz.prog G.1 Iq1s:=iok (gives:=gives) [] okNil 7 follows Tryz.func257 (by kernel_rfl) (fun x=>by kernel_rfl) (Eq1s)
abbrev Tq27:Type:=mQ38→Int→(Int→Bool→Prop)→Prop
def Lq27_0 (xq1s:Tq1s) (K:Int→Bool→Prop):(mQ39→Prop)→mQ39→Prop:=fun k11 x12 =>
 (if decide (x12.1.2.2.2.2.2.2.2.1 < w64 (x12.1.2.2.2.1+x12.1.2.2.2.2.1)) then
 xq1s x12.1.2.2.2.2.2.2.2.1 (fun r13 =>
 (if (r13 == x12.2.1.2.2.2.1) then
 (if decide (x12.1.2.2.2.2.2.2.1 < x12.2.1.2.2.1) then
 k11 (((),x12.1.2.1,x12.1.2.2.1,x12.1.2.2.2.1,x12.1.2.2.2.2.1,x12.1.2.2.2.2.2.2.2.1,w64 (x12.1.2.2.2.2.2.2.1+1),w64 (x12.1.2.2.2.2.2.2.2.1+1),()),x12.2)
 else
 k11 (((),x12.1.2.1,x12.1.2.2.1,x12.1.2.2.2.1,x12.1.2.2.2.2.1,x12.1.2.2.2.2.2.1,x12.1.2.2.2.2.2.2.1,w64 (x12.1.2.2.2.2.2.2.2.1+1),()),x12.2))
 else
 k11 (((),x12.1.2.1,x12.1.2.2.1,x12.1.2.2.2.1,x12.1.2.2.2.2.1,x12.1.2.2.2.2.2.1,x12.1.2.2.2.2.2.2.1,w64 (x12.1.2.2.2.2.2.2.2.1+1),()),x12.2)))
 else
 K x12.1.2.2.2.2.2.1 true)
def Lq27_0p:Lp:=⟨59956,[.trim 59956],mpT40,mpH41,0⟩
def Yq27 (xq0h:Tq0h) (xq1e:Tq1e) (xq1m:Tq1m) (xq1o:Tq1o) (xq1s:Tq1s) (a0:mQ38) (a1:Int) (K:Int→Bool→Prop):Prop :=
 xq0h a1 1 1 (fun r2 r3 =>
 xq1e a0 (fun r4 =>
 (if (!r4) then
 K 0 false
 else
 (if (!r3) then
 K 0 false
 else
 (if (a0.1 == 1) then
 (lt (w64 (w64 (r2+a0.2.1) - 1)) fun v5 =>
 (if decide (a0.2.1≥60) then
 xq1m a1 (fun r6 =>
 (if r6 then
 K (w64 (v5+1)) true
 else
 K v5 true))
 else
 K v5 true))
 else
 (if (a0.1 == 2) then
 K (w64 (r2+a0.2.1)) true
 else
 xq0h a1 a0.2.1 1 (fun r7 r8 =>
 xq1o a1 a0.2.1 (fun r9 r10 =>
 lp (Lq27_0 xq1s K) (((),0,false,r7,r9,(-1),0,r7,()),a0,())))))))))
def Xq27:Tq27:=Yq27 Xq0h Xq1e Xq1m Xq1o Xq1s
def Jq27 (X:Tq27):Inst:=mkI 241 mpL42 .nil mpL24 .nil X
def Iq27:Inst:=Jq27 Xq27
theorem Eq27 (xq0h:Tq0h) (xq1e:Tq1e) (xq1m:Tq1m) (xq1o:Tq1o) (xq1s:Tq1s):EqF Tryz.prog 90 gives Tryz.f241 [Jq0h xq0h,Jq1e xq1e,Jq1m xq1m,Jq1o xq1o,Jq1s xq1s] [Lq27_0p] (Jq27 (Yq27 xq0h xq1e xq1m xq1o xq1s)):=fun x y K=>by kernel_rfl
theorem Iq27_ok:InstOk Tryz.prog G.1 Iq27:=iok (gives:=gives) [Lq27_0p] (okCons Iq0h_ok (okCons Iq1e_ok (okCons Iq1m_ok (okCons Iq1o_ok (okCons Iq1s_ok okNil))))) 90 follows Tryz.func241 (by kernel_rfl) (fun x=>by kernel_rfl) (Eq27 Xq0h Xq1e Xq1m Xq1o Xq1s)
abbrev Tq2l:Type:=mQ38→Int→(Int→Bool→Prop)→Prop
def Yq2l (xq27:Tq27) (a0:mQ38) (a1:Int) (K:Int→Bool→Prop):Prop :=
 xq27 a0 a1 (fun r2 r3 =>
 (if (!r3) then
 K 0 false
 else
 (lt (w64 (w64 (86400 * r2)+a0.2.2.2.2.1)) fun v4 =>
 K v4 true)))
def Xq2l:Tq2l:=Yq2l Xq27
def Jq2l (X:Tq2l):Inst:=mkI 216 mpL42 .nil mpL24 .nil X
def Iq2l:Inst:=Jq2l Xq2l
theorem Eq2l (xq27:Tq27):EqF Tryz.prog 21 gives Tryz.f216 [Jq27 xq27] [] (Jq2l (Yq2l xq27)):=fun x y K=>by kernel_rfl
theorem Iq2l_ok:InstOk Tryz.prog G.1 Iq2l:=iok (gives:=gives) [] (okCons Iq27_ok okNil) 21 follows Tryz.func216 (by kernel_rfl) (fun x=>by kernel_rfl) (Eq2l Xq27)
abbrev Tq1t:Type:=mQ43→Int→(Int→Int→Bool→Prop)→Prop
def Yq1t (xq0v:Tq0v) (xq2l:Tq2l) (a0:mQ43) (a1:Int) (K:Int→Int→Bool→Prop):Prop :=
 xq0v a0 (fun r2 =>
 (if (!r2) then
 K 0 0 false
 else
 (if (!a0.2.2.2.2.2.2.1) then
 K 0 0 false
 else
 xq2l (a0.2.2.2.2.2.2.2.1,a0.2.2.2.2.2.2.2.2.1,a0.2.2.2.2.2.2.2.2.2.1,a0.2.2.2.2.2.2.2.2.2.2.1,a0.2.2.2.2.2.2.2.2.2.2.2.1,()) a1 (fun r3 r4 =>
 xq2l a0.2.2.2.2.2.2.2.2.2.2.2.2 a1 (fun r5 r6 =>
 (if (!r4) then
 K 0 0 false
 else
 K (w64 (r3 - a0.1)) (w64 (r5 - a0.2.2.2.1)) true))))))
def Xq1t:Tq1t:=Yq1t Xq0v Xq2l
def Jq1t (X:Tq1t):Inst:=mkI 185 mpL44 .nil mpL1 .nil X
def Iq1t:Inst:=Jq1t Xq1t
theorem Eq1t (xq0v:Tq0v) (xq2l:Tq2l):EqF Tryz.prog 45 gives Tryz.f185 [Jq0v xq0v,Jq2l xq2l] [] (Jq1t (Yq1t xq0v xq2l)):=fun x y K=>by kernel_rfl
theorem Iq1t_ok:InstOk Tryz.prog G.1 Iq1t:=iok (gives:=gives) [] (okCons Iq0v_ok (okCons Iq2l_ok okNil)) 45 follows Tryz.func185 (by kernel_rfl) (fun x=>by kernel_rfl) (Eq1t Xq0v Xq2l)
abbrev Tq0q:Type:=mQ43→Int→(mQ45→Prop)→Prop
def Yq0q (xq24:Tq24) (xq2j:Tq2j) (xq1u:Tq1u) (xq1t:Tq1t) (a0:mQ43) (a1:Int) (K:mQ45→Prop):Prop :=
 xq24 a1 a0.1 (fun r2 r3 =>
 xq2j r2 86400 (fun r4 r5 r6 =>
 xq1u r4 (fun r7 r8 r9 r10 =>
 xq1t a0 r7 (fun r11 r12 r13 =>
 (if (!r3) then
 K (a0.1,a0.2.1,a0.2.2.1,())
 else
 (if (!r10) then
 K (a0.1,a0.2.1,a0.2.2.1,())
 else
 (if (!r13) then
 K (a0.1,a0.2.1,a0.2.2.1,())
 else
 (if decide (r11 < r12) then
 (if decide (a1≥r11) then
 (if decide (a1 < r12) then
 K (a0.2.2.2.1,a0.2.2.2.2.1,a0.2.2.2.2.2.1,())
 else
 (if decide (r11≥r12) then
 (if decide (a1≥r11) then
 K (a0.2.2.2.1,a0.2.2.2.2.1,a0.2.2.2.2.2.1,())
 else
 (if decide (a1 < r12) then
 K (a0.2.2.2.1,a0.2.2.2.2.1,a0.2.2.2.2.2.1,())
 else
 K (a0.1,a0.2.1,a0.2.2.1,())))
 else
 K (a0.1,a0.2.1,a0.2.2.1,())))
 else
 (if decide (r11≥r12) then
 (if decide (a1≥r11) then
 K (a0.2.2.2.1,a0.2.2.2.2.1,a0.2.2.2.2.2.1,())
 else
 (if decide (a1 < r12) then
 K (a0.2.2.2.1,a0.2.2.2.2.1,a0.2.2.2.2.2.1,())
 else
 K (a0.1,a0.2.1,a0.2.2.1,())))
 else
 K (a0.1,a0.2.1,a0.2.2.1,())))
 else
 (if decide (r11≥r12) then
 (if decide (a1≥r11) then
 K (a0.2.2.2.1,a0.2.2.2.2.1,a0.2.2.2.2.2.1,())
 else
 (if decide (a1 < r12) then
 K (a0.2.2.2.1,a0.2.2.2.2.1,a0.2.2.2.2.2.1,())
 else
 K (a0.1,a0.2.1,a0.2.2.1,())))
 else
 K (a0.1,a0.2.1,a0.2.2.1,()))))))))))
def Xq0q:Tq0q:=Yq0q Xq24 Xq2j Xq1u Xq1t
def Jq0q (X:Tq0q):Inst:=mkI 140 mpL44 .nil mpL46 .nil X
def Iq0q:Inst:=Jq0q Xq0q
theorem Eq0q (xq24:Tq24) (xq2j:Tq2j) (xq1u:Tq1u) (xq1t:Tq1t):EqF Tryz.prog 89 gives Tryz.f140 [Jq24 xq24,Jq2j xq2j,Jq1u xq1u,Jq1t xq1t] [] (Jq0q (Yq0q xq24 xq2j xq1u xq1t)):=fun x y K=>by kernel_rfl
theorem Iq0q_ok:InstOk Tryz.prog G.1 Iq0q:=iok (gives:=gives) [] (okCons Iq24_ok (okCons Iq2j_ok (okCons Iq1u_ok (okCons Iq1t_ok okNil)))) 89 follows Tryz.func140 (by kernel_rfl) (fun x=>by kernel_rfl) (Eq0q Xq24 Xq2j Xq1u Xq1t)
abbrev Tq0k:Type:=mQ22→Int→(mQ45→Prop)→Prop
def Yq0k (xq15:Tq15) (xq0z:Tq0z) (xq1c:Tq1c) (xq0q:Tq0q) (a0:mQ22) (a1:Int) (K:mQ45→Prop):Prop :=
 xq15 a0 a1 (fun r2 =>
 (if (!ByteArray.toList a0.2.2.2.1 == ByteArray.toList (ByteArray.mk #[])) then
 (if (r2 == w64 ((↑(List.length a0.2.1):Int) - 1)) then
 xq0z a0.2.2.2.1 (fun r3 r4 =>
 xq1c a0 a1 (fun r5 =>
 xq0q r3 r5 (fun r6 =>
 K r6)))
 else
 (if decide (r2 < 0) then
 (if (0 :Int)≤0∧0 < (↑(List.length a0.1):Int) then
 (Eng.asInt IntKind.i64 (Eng.getC a0.1 (0:Nat) (0:Nat)) False fun n7 =>
 (Eng.asBool (Eng.getC a0.1 (0:Nat) (1:Nat)) False fun b8 =>
 (Eng.asStr (Eng.getC a0.1 (0:Nat) (2:Nat)) False fun t9 =>
 K (n7,b8,t9,()))))
 else
 False)
 else
 (if 0≤r2∧r2 < (↑(List.length a0.2.1):Int) then
 (Eng.asInt IntKind.i64 (Eng.getC a0.2.1 (Int.toNat r2) (1:Nat)) False fun n10 =>
 (if 0≤n10∧n10 < (↑(List.length a0.1):Int) then
 (Eng.asInt IntKind.i64 (Eng.getC a0.1 (Int.toNat n10) (0:Nat)) False fun n11 =>
 (Eng.asBool (Eng.getC a0.1 (Int.toNat n10) (1:Nat)) False fun b12 =>
 (Eng.asStr (Eng.getC a0.1 (Int.toNat n10) (2:Nat)) False fun t13 =>
 K (n11,b12,t13,()))))
 else
 False))
 else
 False)))
 else
 (if decide (r2 < 0) then
 (if (0 :Int)≤0∧0 < (↑(List.length a0.1):Int) then
 (Eng.asInt IntKind.i64 (Eng.getC a0.1 (0:Nat) (0:Nat)) False fun n14 =>
 (Eng.asBool (Eng.getC a0.1 (0:Nat) (1:Nat)) False fun b15 =>
 (Eng.asStr (Eng.getC a0.1 (0:Nat) (2:Nat)) False fun t16 =>
 K (n14,b15,t16,()))))
 else
 False)
 else
 (if 0≤r2∧r2 < (↑(List.length a0.2.1):Int) then
 (Eng.asInt IntKind.i64 (Eng.getC a0.2.1 (Int.toNat r2) (1:Nat)) False fun n17 =>
 (if 0≤n17∧n17 < (↑(List.length a0.1):Int) then
 (Eng.asInt IntKind.i64 (Eng.getC a0.1 (Int.toNat n17) (0:Nat)) False fun n18 =>
 (Eng.asBool (Eng.getC a0.1 (Int.toNat n17) (1:Nat)) False fun b19 =>
 (Eng.asStr (Eng.getC a0.1 (Int.toNat n17) (2:Nat)) False fun t20 =>
 K (n18,b19,t20,()))))
 else
 False))
 else
 False))))
def Xq0k:Tq0k:=Yq0k Xq15 Xq0z Xq1c Xq0q
def Jq0k (X:Tq0k):Inst:=mkI 79 mpL33 .nil mpL46 .nil X
def Iq0k:Inst:=Jq0k Xq0k
theorem Eq0k (xq15:Tq15) (xq0z:Tq0z) (xq1c:Tq1c) (xq0q:Tq0q):EqF Tryz.prog 49 gives Tryz.f79 [Jq15 xq15,Jq0z xq0z,Jq1c xq1c,Jq0q xq0q] [] (Jq0k (Yq0k xq15 xq0z xq1c xq0q)):=fun x y K=>by kernel_rfl
theorem Iq0k_ok:InstOk Tryz.prog G.1 Iq0k:=iok (gives:=gives) [] (okCons Iq15_ok (okCons Iq0z_ok (okCons Iq1c_ok (okCons Iq0q_ok okNil)))) 49 follows Tryz.func79 (by kernel_rfl) (fun x=>by kernel_rfl) (Eq0k Xq15 Xq0z Xq1c Xq0q)
abbrev Tq23:Type:=Int→(Int→Int→Prop)→Prop
def Yq23 (xq2j:Tq2j) (a0:Int) (K:Int→Int→Prop):Prop :=
 xq2j a0 86400 (fun r1 r2 r3 =>
 K r1 r2)
def Xq23:Tq23:=Yq23 Xq2j
def Jq23 (X:Tq23):Inst:=mkI 80 mpL2 .nil mpL0 .nil X
def Iq23:Inst:=Jq23 Xq23
theorem Eq23 (xq2j:Tq2j):EqF Tryz.prog 15 gives Tryz.f80 [Jq2j xq2j] [] (Jq23 (Yq23 xq2j)):=fun x y K=>by kernel_rfl
theorem Iq23_ok:InstOk Tryz.prog G.1 Iq23:=iok (gives:=gives) [] (okCons Iq2j_ok okNil) 15 follows Tryz.func80 (by kernel_rfl) (fun x=>by kernel_rfl) (Eq23 Xq2j)
abbrev Tq0u:Type:=mQ22→Int→(mQ47→Int→Prop)→Prop
def Yq0u (xq17:Tq17) (xq2e:Tq2e) (xq1n:Tq1n) (xq0k:Tq0k) (xq23:Tq23) (a0:mQ22) (a1:Int) (K:mQ47→Int→Prop):Prop :=
 xq17 a0 (fun r2 =>
 (if (!r2) then
 K (0,0,0,0,0,false,ByteArray.mk #[],()) 1
 else
 xq2e a0.2.2.1 a1 (fun r3 r4 r5 =>
 (if (r5 != 0) then
 K (0,0,0,0,0,false,ByteArray.mk #[],()) r5
 else
 xq1n a0.2.2.1 a1 (fun r6 r7 =>
 xq0k a0 (w64 (a1+63072000)) (fun r8 =>
 xq23 (w64 (r6+r8.1)) (fun r9 r10 =>
 (if decide (r9 < (-719162)) then
 K (0,0,0,0,0,false,ByteArray.mk #[],()) 9
 else
 (if decide (r9 > 2932896) then
 K (0,0,0,0,0,false,ByteArray.mk #[],()) 9
 else
 (if (r4 == 86400) then
 K (r9,w64 (Int.tdiv r10 3600),Int.tmod (w64 (Int.tdiv r10 60)) 60,w64 (Int.tmod r10 (60 :Int)+1),r8) 0
 else
 K (r9,w64 (Int.tdiv r10 3600),Int.tmod (w64 (Int.tdiv r10 60)) 60,Int.tmod r10 60,r8) 0))))))))))
def Xq0u:Tq0u:=Yq0u Xq17 Xq2e Xq1n Xq0k Xq23
def Jq0u (X:Tq0u):Inst:=mkI 26 mpL33 .nil mpL48 .nil X
def Iq0u:Inst:=Jq0u Xq0u
theorem Eq0u (xq17:Tq17) (xq2e:Tq2e) (xq1n:Tq1n) (xq0k:Tq0k) (xq23:Tq23):EqF Tryz.prog 79 gives Tryz.f26 [Jq17 xq17,Jq2e xq2e,Jq1n xq1n,Jq0k xq0k,Jq23 xq23] [] (Jq0u (Yq0u xq17 xq2e xq1n xq0k xq23)):=fun x y K=>by kernel_rfl
theorem Iq0u_ok:InstOk Tryz.prog G.1 Iq0u:=iok (gives:=gives) [] (okCons Iq17_ok (okCons Iq2e_ok (okCons Iq1n_ok (okCons Iq0k_ok (okCons Iq23_ok okNil))))) 79 follows Tryz.func26 (by kernel_rfl) (fun x=>by kernel_rfl) (Eq0u Xq17 Xq2e Xq1n Xq0k Xq23)
abbrev Tq0j:Type:=Int→Int→(ByteArray→Prop)→Prop
def Lq0j_0 (K:ByteArray→Prop):(mQ49→Prop)→mQ49→Prop:=fun k2 x3 =>
 (if decide (x3.1.2.2.2.2.1 < x3.1.2.1) then
 (lt (wu8 (w64 (48+Int.tmod x3.1.1 10))) fun v4 =>
 (if (↑(ByteArray.size (Eng.packB [Eng.V.c (Value.int IntKind.u8 v4)])+ByteArray.size x3.1.2.2.2.1):Int) > 9223372036854775807 then
 False
 else
 (lt (Eng.packB [Eng.V.c (Value.int IntKind.u8 v4)]++x3.1.2.2.2.1) fun v5 =>
 k2 ((w64 (Int.tdiv x3.1.1 10),x3.1.2.1,x3.1.2.2.1,v5,w64 (x3.1.2.2.2.2.1+1),()),()))))
 else
 K x3.1.2.2.2.1)
def Lq0j_0p:Lp:=⟨115,[.trim 115],mpT50,.nil,0⟩
def Yq0j (a0:Int) (a1:Int) (K:ByteArray→Prop):Prop :=
 lp (Lq0j_0 K) ((a0,a1,ByteArray.mk #[],ByteArray.mk #[],0,()),())
def Xq0j:Tq0j:=Yq0j
def Jq0j (X:Tq0j):Inst:=mkI 149 mpL0 .nil mpL51 .nil X
def Iq0j:Inst:=Jq0j Xq0j
theorem Eq0j:EqF Tryz.prog 23 gives Tryz.f149 [] [Lq0j_0p] (Jq0j (Yq0j)):=fun x y K=>by kernel_rfl
theorem Iq0j_ok:InstOk Tryz.prog G.1 Iq0j:=iok (gives:=gives) [Lq0j_0p] okNil 23 follows Tryz.func149 (by kernel_rfl) (fun x=>by kernel_rfl) (Eq0j)
abbrev Tq2c:Type:=Int→(ByteArray→Bool→Prop)→Prop
def Yq2c (xq1u:Tq1u) (xq0j:Tq0j) (a0:Int) (K:ByteArray→Bool→Prop):Prop :=
 xq1u a0 (fun r1 r2 r3 r4 =>
 (if (!r4) then
 K (ByteArray.mk #[]) false
 else
 xq0j r1 4 (fun r5 =>
 (if (↑(ByteArray.size r5+(1:Nat)):Int) > 9223372036854775807 then
 False
 else
 xq0j r2 2 (fun r6 =>
 (if (↑(ByteArray.size (r5++ByteArray.mk #[(45:UInt8)])+ByteArray.size r6):Int) > 9223372036854775807 then
 False
 else
 (lt (r5++ByteArray.mk #[(45:UInt8)]++r6) fun v7 =>
 (if (↑(ByteArray.size v7+(1:Nat)):Int) > 9223372036854775807 then
 False
 else
 xq0j r3 2 (fun r8 =>
 (if (↑(ByteArray.size (v7++ByteArray.mk #[(45:UInt8)])+ByteArray.size r8):Int) > 9223372036854775807 then
 False
 else
 (lt (v7++ByteArray.mk #[(45:UInt8)]++r8) fun v9 =>
 K v9 true)))))))))))
def Xq2c:Tq2c:=Yq2c Xq1u Xq0j
def Jq2c (X:Tq2c):Inst:=mkI 86 mpL2 .nil mpL52 .nil X
def Iq2c:Inst:=Jq2c Xq2c
theorem Eq2c (xq1u:Tq1u) (xq0j:Tq0j):EqF Tryz.prog 27 gives Tryz.f86 [Jq1u xq1u,Jq0j xq0j] [] (Jq2c (Yq2c xq1u xq0j)):=fun x y K=>by kernel_rfl
theorem Iq2c_ok:InstOk Tryz.prog G.1 Iq2c:=iok (gives:=gives) [] (okCons Iq1u_ok (okCons Iq0j_ok okNil)) 27 follows Tryz.func86 (by kernel_rfl) (fun x=>by kernel_rfl) (Eq2c Xq1u Xq0j)
abbrev Tq2g:Type:=Int→(ByteArray→Prop)→Prop
def Yq2g (a0:Int) (K:ByteArray→Prop):Prop :=
 (lt (w64 (48+w64 (Int.tdiv a0 10))) fun v1 =>
 (lt (wu8 (w64 (48+Int.tmod a0 10))) fun v2 =>
 (lt (Eng.packB [Eng.V.c (Value.int IntKind.u8 (wu8 v1)),Eng.V.c (Value.int IntKind.u8 v2)]) fun v3 =>
 K v3)))
def Xq2g:Tq2g:=Yq2g
def Jq2g (X:Tq2g):Inst:=mkI 88 mpL2 .nil mpL51 .nil X
def Iq2g:Inst:=Jq2g Xq2g
theorem Eq2g:EqF Tryz.prog 13 gives Tryz.f88 [] [] (Jq2g (Yq2g)):=fun x y K=>by kernel_rfl
theorem Iq2g_ok:InstOk Tryz.prog G.1 Iq2g:=iok (gives:=gives) [] okNil 13 follows Tryz.func88 (by kernel_rfl) (fun x=>by kernel_rfl) (Eq2g)
abbrev Tq1w:Type:=mQ47→(ByteArray→Bool→Prop)→Prop
def Yq1w (xq2c:Tq2c) (xq1b:Tq1b) (xq2g:Tq2g) (a0:mQ47) (K:ByteArray→Bool→Prop):Prop :=
 xq2c a0.1 (fun r1 r2 =>
 xq1b a0.2.2.2.2.2.2.1 (fun r3 =>
 (if (!r2) then
 K (ByteArray.mk #[]) false
 else
 (if (!r3) then
 K (ByteArray.mk #[]) false
 else
 (if decide (a0.2.1 < 0) then
 K (ByteArray.mk #[]) false
 else
 (if decide (a0.2.1 > 23) then
 K (ByteArray.mk #[]) false
 else
 (if decide (a0.2.2.1 < 0) then
 K (ByteArray.mk #[]) false
 else
 (if decide (a0.2.2.1 > 59) then
 K (ByteArray.mk #[]) false
 else
 (if decide (a0.2.2.2.1 < 0) then
 K (ByteArray.mk #[]) false
 else
 (if decide (a0.2.2.2.1 > 60) then
 K (ByteArray.mk #[]) false
 else
 (if decide (a0.2.2.2.2.1 < (-89999)) then
 K (ByteArray.mk #[]) false
 else
 (if decide (a0.2.2.2.2.1 > 93599) then
 K (ByteArray.mk #[]) false
 else
 (if (↑(ByteArray.size r1+(1:Nat)):Int) > 9223372036854775807 then
 False
 else
 xq2g a0.2.1 (fun r4 =>
 (if (↑(ByteArray.size (r1++ByteArray.mk #[(84:UInt8)])+ByteArray.size r4):Int) > 9223372036854775807 then
 False
 else
 (lt (r1++ByteArray.mk #[(84:UInt8)]++r4) fun v5 =>
 (if (↑(ByteArray.size v5+(1:Nat)):Int) > 9223372036854775807 then
 False
 else
 xq2g a0.2.2.1 (fun r6 =>
 (if (↑(ByteArray.size (v5++ByteArray.mk #[(58:UInt8)])+ByteArray.size r6):Int) > 9223372036854775807 then
 False
 else
 (lt (v5++ByteArray.mk #[(58:UInt8)]++r6) fun v7 =>
 (if (↑(ByteArray.size v7+(1:Nat)):Int) > 9223372036854775807 then
 False
 else
 xq2g a0.2.2.2.1 (fun r8 =>
 (if (↑(ByteArray.size (v7++ByteArray.mk #[(58:UInt8)])+ByteArray.size r8):Int) > 9223372036854775807 then
 False
 else
 (lt (v7++ByteArray.mk #[(58:UInt8)]++r8) fun v9 =>
 (if decide (a0.2.2.2.2.1 < 0) then
 (if (↑(ByteArray.size v9+(1:Nat)):Int) > 9223372036854775807 then
 False
 else
 (lt (w64 (Int.tdiv (w64 (0 - a0.2.2.2.2.1)) 3600)) fun v10 =>
 xq2g v10 (fun r11 =>
 (if (↑(ByteArray.size (v9++ByteArray.mk #[(45:UInt8)])+ByteArray.size r11):Int) > 9223372036854775807 then
 False
 else
 (lt (v9++ByteArray.mk #[(45:UInt8)]++r11) fun v12 =>
 (if (↑(ByteArray.size v12+(1:Nat)):Int) > 9223372036854775807 then
 False
 else
 (lt (w64 (Int.tdiv (w64 (0 - a0.2.2.2.2.1)) 60)) fun v13 =>
 xq2g (Int.tmod v13 60) (fun r14 =>
 (if (↑(ByteArray.size (v12++ByteArray.mk #[(58:UInt8)])+ByteArray.size r14):Int) > 9223372036854775807 then
 False
 else
 (lt (v12++ByteArray.mk #[(58:UInt8)]++r14) fun v15 =>
 (if (Int.tmod (w64 (0 - a0.2.2.2.2.1)) (60 :Int) != 0) then
 (if (↑(ByteArray.size v15+(1:Nat)):Int) > 9223372036854775807 then
 False
 else
 xq2g (Int.tmod (w64 (0 - a0.2.2.2.2.1)) 60) (fun r16 =>
 (if (↑(ByteArray.size (v15++ByteArray.mk #[(58:UInt8)])+ByteArray.size r16):Int) > 9223372036854775807 then
 False
 else
 (lt (v15++ByteArray.mk #[(58:UInt8)]++r16) fun v17 =>
 (if (↑(ByteArray.size v17+(1:Nat)):Int) > 9223372036854775807 then
 False
 else
 (if (↑(ByteArray.size (v17++ByteArray.mk #[(32:UInt8)])+ByteArray.size a0.2.2.2.2.2.2.1):Int) > 9223372036854775807 then
 False
 else
 (lt (v17++ByteArray.mk #[(32:UInt8)]++a0.2.2.2.2.2.2.1) fun v18 =>
 K v18 true)))))))
 else
 (if (↑(ByteArray.size v15+(1:Nat)):Int) > 9223372036854775807 then
 False
 else
 (if (↑(ByteArray.size (v15++ByteArray.mk #[(32:UInt8)])+ByteArray.size a0.2.2.2.2.2.2.1):Int) > 9223372036854775807 then
 False
 else
 (lt (v15++ByteArray.mk #[(32:UInt8)]++a0.2.2.2.2.2.2.1) fun v19 =>
 K v19 true))))))))))))))
 else
 (if (↑(ByteArray.size v9+(1:Nat)):Int) > 9223372036854775807 then
 False
 else
 xq2g (w64 (Int.tdiv a0.2.2.2.2.1 3600)) (fun r20 =>
 (if (↑(ByteArray.size (v9++ByteArray.mk #[(43:UInt8)])+ByteArray.size r20):Int) > 9223372036854775807 then
 False
 else
 (lt (v9++ByteArray.mk #[(43:UInt8)]++r20) fun v21 =>
 (if (↑(ByteArray.size v21+(1:Nat)):Int) > 9223372036854775807 then
 False
 else
 xq2g (Int.tmod (w64 (Int.tdiv a0.2.2.2.2.1 60)) 60) (fun r22 =>
 (if (↑(ByteArray.size (v21++ByteArray.mk #[(58:UInt8)])+ByteArray.size r22):Int) > 9223372036854775807 then
 False
 else
 (lt (v21++ByteArray.mk #[(58:UInt8)]++r22) fun v23 =>
 (if (Int.tmod a0.2.2.2.2.1 (60 :Int) != 0) then
 (if (↑(ByteArray.size v23+(1:Nat)):Int) > 9223372036854775807 then
 False
 else
 xq2g (Int.tmod a0.2.2.2.2.1 60) (fun r24 =>
 (if (↑(ByteArray.size (v23++ByteArray.mk #[(58:UInt8)])+ByteArray.size r24):Int) > 9223372036854775807 then
 False
 else
 (lt (v23++ByteArray.mk #[(58:UInt8)]++r24) fun v25 =>
 (if (↑(ByteArray.size v25+(1:Nat)):Int) > 9223372036854775807 then
 False
 else
 (if (↑(ByteArray.size (v25++ByteArray.mk #[(32:UInt8)])+ByteArray.size a0.2.2.2.2.2.2.1):Int) > 9223372036854775807 then
 False
 else
 (lt (v25++ByteArray.mk #[(32:UInt8)]++a0.2.2.2.2.2.2.1) fun v26 =>
 K v26 true)))))))
 else
 (if (↑(ByteArray.size v23+(1:Nat)):Int) > 9223372036854775807 then
 False
 else
 (if (↑(ByteArray.size (v23++ByteArray.mk #[(32:UInt8)])+ByteArray.size a0.2.2.2.2.2.2.1):Int) > 9223372036854775807 then
 False
 else
 (lt (v23++ByteArray.mk #[(32:UInt8)]++a0.2.2.2.2.2.2.1) fun v27 =>
 K v27 true)))))))))))))))))))))))))))))))))))))
def Xq1w:Tq1w:=Yq1w Xq2c Xq1b Xq2g
def Jq1w (X:Tq1w):Inst:=mkI 28 mpL53 .nil mpL52 .nil X
def Iq1w:Inst:=Jq1w Xq1w
theorem Eq1w (xq2c:Tq2c) (xq1b:Tq1b) (xq2g:Tq2g):EqF Tryz.prog 113 gives Tryz.f28 [Jq2c xq2c,Jq1b xq1b,Jq2g xq2g] [] (Jq1w (Yq1w xq2c xq1b xq2g)):=fun x y K=>by kernel_rfl
theorem Iq1w_ok:InstOk Tryz.prog G.1 Iq1w:=iok (gives:=gives) [] (okCons Iq2c_ok (okCons Iq1b_ok (okCons Iq2g_ok okNil))) 113 follows Tryz.func28 (by kernel_rfl) (fun x=>by kernel_rfl) (Eq1w Xq2c Xq1b Xq2g)
abbrev Tq0p:Type:=ByteArray→(Int→Prop)→Prop
def Lq0p_0 (K:Int→Prop):(mQ54→Prop)→mQ54→Prop:=fun k1 x2 =>
 (if decide (x2.1.2.2.2.1 < (↑(ByteArray.size x2.1.1):Int)) then
 (if 0≤x2.1.2.2.2.1∧x2.1.2.2.2.1 < (↑(ByteArray.size x2.1.1):Int) then
 (if decide (Eng.bAt x2.1.1 (Int.toNat x2.1.2.2.2.1) < 48) then
 K (-1)
 else
 (if 0≤x2.1.2.2.2.1∧x2.1.2.2.2.1 < (↑(ByteArray.size x2.1.1):Int) then
 (if decide (Eng.bAt x2.1.1 (Int.toNat x2.1.2.2.2.1) > 57) then
 K (-1)
 else
 (if 0≤x2.1.2.2.2.1∧x2.1.2.2.2.1 < (↑(ByteArray.size x2.1.1):Int) then
 (lt (w64 (wu8 (Eng.bAt x2.1.1 (Int.toNat x2.1.2.2.2.1) - 48))) fun v3 =>
 (lt (w64 (w64 (10 * x2.1.2.2.1)+v3)) fun v4 =>
 k1 ((x2.1.1,x2.1.2.1,v4,w64 (x2.1.2.2.2.1+1),()),())))
 else
 False))
 else
 False))
 else
 False)
 else
 K x2.1.2.2.1)
def Lq0p_0p:Lp:=⟨29,[.trim 29],mpT55,.nil,0⟩
def Yq0p (a0:ByteArray) (K:Int→Prop):Prop :=
 lp (Lq0p_0 K) ((a0,0,0,0,()),())
def Xq0p:Tq0p:=Yq0p
def Jq0p (X:Tq0p):Inst:=mkI 94 mpL51 .nil mpL2 .nil X
def Iq0p:Inst:=Jq0p Xq0p
theorem Eq0p:EqF Tryz.prog 30 gives Tryz.f94 [] [Lq0p_0p] (Jq0p (Yq0p)):=fun x y K=>by kernel_rfl
theorem Iq0p_ok:InstOk Tryz.prog G.1 Iq0p:=iok (gives:=gives) [Lq0p_0p] okNil 30 follows Tryz.func94 (by kernel_rfl) (fun x=>by kernel_rfl) (Eq0p)
abbrev Tq1g:Type:=ByteArray→(mQ47→Bool→Prop)→Prop
def Yq1g (xq0p:Tq0p) (xq0h:Tq0h) (xq1w:Tq1w) (a0:ByteArray) (K:mQ47→Bool→Prop):Prop :=
 (if decide ((↑(ByteArray.size a0):Int) < 26) then
 K (0,0,0,0,0,false,ByteArray.mk #[],()) false
 else
 (if decide ((↑(ByteArray.size a0):Int) > 60) then
 K (0,0,0,0,0,false,ByteArray.mk #[],()) false
 else
 (if (0 :Int)≤4∧4≤(↑(ByteArray.size a0):Int) then
 (if (0 :Int)≤7∧7≤(↑(ByteArray.size a0):Int) then
 (if (0 :Int)≤10∧10≤(↑(ByteArray.size a0):Int) then
 xq0p (ByteArray.extract a0 (0:Nat) (4:Nat)) (fun r1 =>
 xq0p (ByteArray.extract a0 (5:Nat) (7:Nat)) (fun r2 =>
 xq0p (ByteArray.extract a0 (8:Nat) (10:Nat)) (fun r3 =>
 xq0h r1 r2 r3 (fun r4 r5 =>
 (if (0 :Int)≤13∧13≤(↑(ByteArray.size a0):Int) then
 (if (0 :Int)≤16∧16≤(↑(ByteArray.size a0):Int) then
 (if (0 :Int)≤19∧19≤(↑(ByteArray.size a0):Int) then
 (
 xq0p (ByteArray.extract a0 (11:Nat) (13:Nat)) (fun r6 =>
 (
 xq0p (ByteArray.extract a0 (14:Nat) (16:Nat)) (fun r7 =>
 (
 xq0p (ByteArray.extract a0 (17:Nat) (19:Nat)) (fun r8 =>
 (dup (
 (if (0 :Int)≤22∧22≤(↑(ByteArray.size a0):Int) then
 (if (0 :Int)≤25∧25≤(↑(ByteArray.size a0):Int) then
 xq0p (ByteArray.extract a0 (20:Nat) (22:Nat)) (fun r9 =>
 xq0p (ByteArray.extract a0 (23:Nat) (25:Nat)) (fun r10 =>
 (lt (w64 (w64 (3600 * r9)+w64 (60 * r10))) fun v11 =>
 (if (0 :Int)≤25∧25 < (↑(ByteArray.size a0):Int) then
 (if (Eng.bAt a0 (25:Nat) == 58) then
 (if decide ((↑(ByteArray.size a0):Int) > 28) then
 (if (0 :Int)≤28∧28≤(↑(ByteArray.size a0):Int) then
 xq0p (ByteArray.extract a0 (26:Nat) (28:Nat)) (fun r12 =>
 (if (0 :Int)≤19∧19 < (↑(ByteArray.size a0):Int) then
 (if (Eng.bAt a0 (19:Nat) == 45) then
 (lt (w64 (0 - w64 (v11+r12))) fun v13 =>
 (if 0≤(↑(ByteArray.size a0):Int)∧(↑(ByteArray.size a0):Int)≤(↑(ByteArray.size a0):Int) then
 (if (0 :Int)≤29∧29≤(↑(ByteArray.size a0):Int) then
 xq1w (r4,r6,r7,r8,v13,false,ByteArray.extract a0 (29:Nat) (Int.toNat (↑(ByteArray.size a0):Int)),()) (fun r14 r15 =>
 (if (!r5) then
 K (0,0,0,0,0,false,ByteArray.mk #[],()) false
 else
 (if (!ByteArray.toList r14 == ByteArray.toList a0) then
 K (0,0,0,0,0,false,ByteArray.mk #[],()) false
 else
 K (r4,r6,r7,r8,v13,false,ByteArray.extract a0 (29:Nat) (Int.toNat (↑(ByteArray.size a0):Int)),()) true)))
 else
 False)
 else
 False))
 else
 (if 0≤(↑(ByteArray.size a0):Int)∧(↑(ByteArray.size a0):Int)≤(↑(ByteArray.size a0):Int) then
 (if (0 :Int)≤29∧29≤(↑(ByteArray.size a0):Int) then
 xq1w (r4,r6,r7,r8,w64 (v11+r12),false,ByteArray.extract a0 (29:Nat) (Int.toNat (↑(ByteArray.size a0):Int)),()) (fun r16 r17 =>
 (if (!r5) then
 K (0,0,0,0,0,false,ByteArray.mk #[],()) false
 else
 (if (!ByteArray.toList r16 == ByteArray.toList a0) then
 K (0,0,0,0,0,false,ByteArray.mk #[],()) false
 else
 K (r4,r6,r7,r8,w64 (v11+r12),false,ByteArray.extract a0 (29:Nat) (Int.toNat (↑(ByteArray.size a0):Int)),()) true)))
 else
 False)
 else
 False))
 else
 False))
 else
 False)
 else
 (if (0 :Int)≤19∧19 < (↑(ByteArray.size a0):Int) then
 (if (Eng.bAt a0 (19:Nat) == 45) then
 (if 0≤(↑(ByteArray.size a0):Int)∧(↑(ByteArray.size a0):Int)≤(↑(ByteArray.size a0):Int) then
 (if (0 :Int)≤26∧26≤(↑(ByteArray.size a0):Int) then
 xq1w (r4,r6,r7,r8,w64 (0 - v11),false,ByteArray.extract a0 (26:Nat) (Int.toNat (↑(ByteArray.size a0):Int)),()) (fun r18 r19 =>
 (if (!r5) then
 K (0,0,0,0,0,false,ByteArray.mk #[],()) false
 else
 (if (!ByteArray.toList r18 == ByteArray.toList a0) then
 K (0,0,0,0,0,false,ByteArray.mk #[],()) false
 else
 K (r4,r6,r7,r8,w64 (0 - v11),false,ByteArray.extract a0 (26:Nat) (Int.toNat (↑(ByteArray.size a0):Int)),()) true)))
 else
 False)
 else
 False)
 else
 (if 0≤(↑(ByteArray.size a0):Int)∧(↑(ByteArray.size a0):Int)≤(↑(ByteArray.size a0):Int) then
 (if (0 :Int)≤26∧26≤(↑(ByteArray.size a0):Int) then
 xq1w (r4,r6,r7,r8,v11,false,ByteArray.extract a0 (26:Nat) (Int.toNat (↑(ByteArray.size a0):Int)),()) (fun r20 r21 =>
 (if (!r5) then
 K (0,0,0,0,0,false,ByteArray.mk #[],()) false
 else
 (if (!ByteArray.toList r20 == ByteArray.toList a0) then
 K (0,0,0,0,0,false,ByteArray.mk #[],()) false
 else
 K (r4,r6,r7,r8,v11,false,ByteArray.extract a0 (26:Nat) (Int.toNat (↑(ByteArray.size a0):Int)),()) true)))
 else
 False)
 else
 False))
 else
 False))
 else
 (if (0 :Int)≤19∧19 < (↑(ByteArray.size a0):Int) then
 (if (Eng.bAt a0 (19:Nat) == 45) then
 (if 0≤(↑(ByteArray.size a0):Int)∧(↑(ByteArray.size a0):Int)≤(↑(ByteArray.size a0):Int) then
 (if (0 :Int)≤26∧26≤(↑(ByteArray.size a0):Int) then
 xq1w (r4,r6,r7,r8,w64 (0 - v11),false,ByteArray.extract a0 (26:Nat) (Int.toNat (↑(ByteArray.size a0):Int)),()) (fun r22 r23 =>
 (if (!r5) then
 K (0,0,0,0,0,false,ByteArray.mk #[],()) false
 else
 (if (!ByteArray.toList r22 == ByteArray.toList a0) then
 K (0,0,0,0,0,false,ByteArray.mk #[],()) false
 else
 K (r4,r6,r7,r8,w64 (0 - v11),false,ByteArray.extract a0 (26:Nat) (Int.toNat (↑(ByteArray.size a0):Int)),()) true)))
 else
 False)
 else
 False)
 else
 (if 0≤(↑(ByteArray.size a0):Int)∧(↑(ByteArray.size a0):Int)≤(↑(ByteArray.size a0):Int) then
 (if (0 :Int)≤26∧26≤(↑(ByteArray.size a0):Int) then
 xq1w (r4,r6,r7,r8,v11,false,ByteArray.extract a0 (26:Nat) (Int.toNat (↑(ByteArray.size a0):Int)),()) (fun r24 r25 =>
 (if (!r5) then
 K (0,0,0,0,0,false,ByteArray.mk #[],()) false
 else
 (if (!ByteArray.toList r24 == ByteArray.toList a0) then
 K (0,0,0,0,0,false,ByteArray.mk #[],()) false
 else
 K (r4,r6,r7,r8,v11,false,ByteArray.extract a0 (26:Nat) (Int.toNat (↑(ByteArray.size a0):Int)),()) true)))
 else
 False)
 else
 False))
 else
 False))
 else
 False))))
 else
 False)
 else
 False))))
 ∧
 xq0p (ByteArray.extract a0 (17:Nat) (19:Nat)) (fun r43 =>
 (if (0 :Int)≤22∧22≤(↑(ByteArray.size a0):Int) then
 (if (0 :Int)≤25∧25≤(↑(ByteArray.size a0):Int) then
 xq0p (ByteArray.extract a0 (20:Nat) (22:Nat)) (fun r44 =>
 xq0p (ByteArray.extract a0 (23:Nat) (25:Nat)) (fun r45 =>
 (lt (w64 (w64 (3600 * r44)+w64 (60 * r45))) fun v46 =>
 (if (0 :Int)≤25∧25 < (↑(ByteArray.size a0):Int) then
 (if (Eng.bAt a0 (25:Nat) == 58) then
 (if decide ((↑(ByteArray.size a0):Int) > 28) then
 (if (0 :Int)≤28∧28≤(↑(ByteArray.size a0):Int) then
 xq0p (ByteArray.extract a0 (26:Nat) (28:Nat)) (fun r47 =>
 (if (0 :Int)≤19∧19 < (↑(ByteArray.size a0):Int) then
 (if (Eng.bAt a0 (19:Nat) == 45) then
 (lt (w64 (0 - w64 (v46+r47))) fun v48 =>
 (if 0≤(↑(ByteArray.size a0):Int)∧(↑(ByteArray.size a0):Int)≤(↑(ByteArray.size a0):Int) then
 (if (0 :Int)≤29∧29≤(↑(ByteArray.size a0):Int) then
 xq1w (r4,r6,r7,r43,v48,false,ByteArray.extract a0 (29:Nat) (Int.toNat (↑(ByteArray.size a0):Int)),()) (fun r49 r50 =>
 (if (!r5) then
 K (0,0,0,0,0,false,ByteArray.mk #[],()) false
 else
 (if (!ByteArray.toList r49 == ByteArray.toList a0) then
 K (0,0,0,0,0,false,ByteArray.mk #[],()) false
 else
 K (r4,r6,r7,r43,v48,false,ByteArray.extract a0 (29:Nat) (Int.toNat (↑(ByteArray.size a0):Int)),()) true)))
 else
 False)
 else
 False))
 else
 (if 0≤(↑(ByteArray.size a0):Int)∧(↑(ByteArray.size a0):Int)≤(↑(ByteArray.size a0):Int) then
 (if (0 :Int)≤29∧29≤(↑(ByteArray.size a0):Int) then
 xq1w (r4,r6,r7,r43,w64 (v46+r47),false,ByteArray.extract a0 (29:Nat) (Int.toNat (↑(ByteArray.size a0):Int)),()) (fun r51 r52 =>
 (if (!r5) then
 K (0,0,0,0,0,false,ByteArray.mk #[],()) false
 else
 (if (!ByteArray.toList r51 == ByteArray.toList a0) then
 K (0,0,0,0,0,false,ByteArray.mk #[],()) false
 else
 K (r4,r6,r7,r43,w64 (v46+r47),false,ByteArray.extract a0 (29:Nat) (Int.toNat (↑(ByteArray.size a0):Int)),()) true)))
 else
 False)
 else
 False))
 else
 False))
 else
 False)
 else
 (if (0 :Int)≤19∧19 < (↑(ByteArray.size a0):Int) then
 (if (Eng.bAt a0 (19:Nat) == 45) then
 (if 0≤(↑(ByteArray.size a0):Int)∧(↑(ByteArray.size a0):Int)≤(↑(ByteArray.size a0):Int) then
 (if (0 :Int)≤26∧26≤(↑(ByteArray.size a0):Int) then
 xq1w (r4,r6,r7,r43,w64 (0 - v46),false,ByteArray.extract a0 (26:Nat) (Int.toNat (↑(ByteArray.size a0):Int)),()) (fun r53 r54 =>
 (if (!r5) then
 K (0,0,0,0,0,false,ByteArray.mk #[],()) false
 else
 (if (!ByteArray.toList r53 == ByteArray.toList a0) then
 K (0,0,0,0,0,false,ByteArray.mk #[],()) false
 else
 K (r4,r6,r7,r43,w64 (0 - v46),false,ByteArray.extract a0 (26:Nat) (Int.toNat (↑(ByteArray.size a0):Int)),()) true)))
 else
 False)
 else
 False)
 else
 (if 0≤(↑(ByteArray.size a0):Int)∧(↑(ByteArray.size a0):Int)≤(↑(ByteArray.size a0):Int) then
 (if (0 :Int)≤26∧26≤(↑(ByteArray.size a0):Int) then
 xq1w (r4,r6,r7,r43,v46,false,ByteArray.extract a0 (26:Nat) (Int.toNat (↑(ByteArray.size a0):Int)),()) (fun r55 r56 =>
 (if (!r5) then
 K (0,0,0,0,0,false,ByteArray.mk #[],()) false
 else
 (if (!ByteArray.toList r55 == ByteArray.toList a0) then
 K (0,0,0,0,0,false,ByteArray.mk #[],()) false
 else
 K (r4,r6,r7,r43,v46,false,ByteArray.extract a0 (26:Nat) (Int.toNat (↑(ByteArray.size a0):Int)),()) true)))
 else
 False)
 else
 False))
 else
 False))
 else
 (if (0 :Int)≤19∧19 < (↑(ByteArray.size a0):Int) then
 (if (Eng.bAt a0 (19:Nat) == 45) then
 (if 0≤(↑(ByteArray.size a0):Int)∧(↑(ByteArray.size a0):Int)≤(↑(ByteArray.size a0):Int) then
 (if (0 :Int)≤26∧26≤(↑(ByteArray.size a0):Int) then
 xq1w (r4,r6,r7,r43,w64 (0 - v46),false,ByteArray.extract a0 (26:Nat) (Int.toNat (↑(ByteArray.size a0):Int)),()) (fun r57 r58 =>
 (if (!r5) then
 K (0,0,0,0,0,false,ByteArray.mk #[],()) false
 else
 (if (!ByteArray.toList r57 == ByteArray.toList a0) then
 K (0,0,0,0,0,false,ByteArray.mk #[],()) false
 else
 K (r4,r6,r7,r43,w64 (0 - v46),false,ByteArray.extract a0 (26:Nat) (Int.toNat (↑(ByteArray.size a0):Int)),()) true)))
 else
 False)
 else
 False)
 else
 (if 0≤(↑(ByteArray.size a0):Int)∧(↑(ByteArray.size a0):Int)≤(↑(ByteArray.size a0):Int) then
 (if (0 :Int)≤26∧26≤(↑(ByteArray.size a0):Int) then
 xq1w (r4,r6,r7,r43,v46,false,ByteArray.extract a0 (26:Nat) (Int.toNat (↑(ByteArray.size a0):Int)),()) (fun r59 r60 =>
 (if (!r5) then
 K (0,0,0,0,0,false,ByteArray.mk #[],()) false
 else
 (if (!ByteArray.toList r59 == ByteArray.toList a0) then
 K (0,0,0,0,0,false,ByteArray.mk #[],()) false
 else
 K (r4,r6,r7,r43,v46,false,ByteArray.extract a0 (26:Nat) (Int.toNat (↑(ByteArray.size a0):Int)),()) true)))
 else
 False)
 else
 False))
 else
 False))
 else
 False))))
 else
 False)
 else
 False))))
 ∧
 xq0p (ByteArray.extract a0 (14:Nat) (16:Nat)) (fun r61 =>
 xq0p (ByteArray.extract a0 (17:Nat) (19:Nat)) (fun r62 =>
 (if (0 :Int)≤22∧22≤(↑(ByteArray.size a0):Int) then
 (if (0 :Int)≤25∧25≤(↑(ByteArray.size a0):Int) then
 xq0p (ByteArray.extract a0 (20:Nat) (22:Nat)) (fun r63 =>
 xq0p (ByteArray.extract a0 (23:Nat) (25:Nat)) (fun r64 =>
 (lt (w64 (w64 (3600 * r63)+w64 (60 * r64))) fun v65 =>
 (if (0 :Int)≤25∧25 < (↑(ByteArray.size a0):Int) then
 (if (Eng.bAt a0 (25:Nat) == 58) then
 (if decide ((↑(ByteArray.size a0):Int) > 28) then
 (if (0 :Int)≤28∧28≤(↑(ByteArray.size a0):Int) then
 xq0p (ByteArray.extract a0 (26:Nat) (28:Nat)) (fun r66 =>
 (if (0 :Int)≤19∧19 < (↑(ByteArray.size a0):Int) then
 (if (Eng.bAt a0 (19:Nat) == 45) then
 (lt (w64 (0 - w64 (v65+r66))) fun v67 =>
 (if 0≤(↑(ByteArray.size a0):Int)∧(↑(ByteArray.size a0):Int)≤(↑(ByteArray.size a0):Int) then
 (if (0 :Int)≤29∧29≤(↑(ByteArray.size a0):Int) then
 xq1w (r4,r6,r61,r62,v67,false,ByteArray.extract a0 (29:Nat) (Int.toNat (↑(ByteArray.size a0):Int)),()) (fun r68 r69 =>
 (if (!r5) then
 K (0,0,0,0,0,false,ByteArray.mk #[],()) false
 else
 (if (!ByteArray.toList r68 == ByteArray.toList a0) then
 K (0,0,0,0,0,false,ByteArray.mk #[],()) false
 else
 K (r4,r6,r61,r62,v67,false,ByteArray.extract a0 (29:Nat) (Int.toNat (↑(ByteArray.size a0):Int)),()) true)))
 else
 False)
 else
 False))
 else
 (if 0≤(↑(ByteArray.size a0):Int)∧(↑(ByteArray.size a0):Int)≤(↑(ByteArray.size a0):Int) then
 (if (0 :Int)≤29∧29≤(↑(ByteArray.size a0):Int) then
 xq1w (r4,r6,r61,r62,w64 (v65+r66),false,ByteArray.extract a0 (29:Nat) (Int.toNat (↑(ByteArray.size a0):Int)),()) (fun r70 r71 =>
 (if (!r5) then
 K (0,0,0,0,0,false,ByteArray.mk #[],()) false
 else
 (if (!ByteArray.toList r70 == ByteArray.toList a0) then
 K (0,0,0,0,0,false,ByteArray.mk #[],()) false
 else
 K (r4,r6,r61,r62,w64 (v65+r66),false,ByteArray.extract a0 (29:Nat) (Int.toNat (↑(ByteArray.size a0):Int)),()) true)))
 else
 False)
 else
 False))
 else
 False))
 else
 False)
 else
 (if (0 :Int)≤19∧19 < (↑(ByteArray.size a0):Int) then
 (if (Eng.bAt a0 (19:Nat) == 45) then
 (if 0≤(↑(ByteArray.size a0):Int)∧(↑(ByteArray.size a0):Int)≤(↑(ByteArray.size a0):Int) then
 (if (0 :Int)≤26∧26≤(↑(ByteArray.size a0):Int) then
 xq1w (r4,r6,r61,r62,w64 (0 - v65),false,ByteArray.extract a0 (26:Nat) (Int.toNat (↑(ByteArray.size a0):Int)),()) (fun r72 r73 =>
 (if (!r5) then
 K (0,0,0,0,0,false,ByteArray.mk #[],()) false
 else
 (if (!ByteArray.toList r72 == ByteArray.toList a0) then
 K (0,0,0,0,0,false,ByteArray.mk #[],()) false
 else
 K (r4,r6,r61,r62,w64 (0 - v65),false,ByteArray.extract a0 (26:Nat) (Int.toNat (↑(ByteArray.size a0):Int)),()) true)))
 else
 False)
 else
 False)
 else
 (if 0≤(↑(ByteArray.size a0):Int)∧(↑(ByteArray.size a0):Int)≤(↑(ByteArray.size a0):Int) then
 (if (0 :Int)≤26∧26≤(↑(ByteArray.size a0):Int) then
 xq1w (r4,r6,r61,r62,v65,false,ByteArray.extract a0 (26:Nat) (Int.toNat (↑(ByteArray.size a0):Int)),()) (fun r74 r75 =>
 (if (!r5) then
 K (0,0,0,0,0,false,ByteArray.mk #[],()) false
 else
 (if (!ByteArray.toList r74 == ByteArray.toList a0) then
 K (0,0,0,0,0,false,ByteArray.mk #[],()) false
 else
 K (r4,r6,r61,r62,v65,false,ByteArray.extract a0 (26:Nat) (Int.toNat (↑(ByteArray.size a0):Int)),()) true)))
 else
 False)
 else
 False))
 else
 False))
 else
 (if (0 :Int)≤19∧19 < (↑(ByteArray.size a0):Int) then
 (if (Eng.bAt a0 (19:Nat) == 45) then
 (if 0≤(↑(ByteArray.size a0):Int)∧(↑(ByteArray.size a0):Int)≤(↑(ByteArray.size a0):Int) then
 (if (0 :Int)≤26∧26≤(↑(ByteArray.size a0):Int) then
 xq1w (r4,r6,r61,r62,w64 (0 - v65),false,ByteArray.extract a0 (26:Nat) (Int.toNat (↑(ByteArray.size a0):Int)),()) (fun r76 r77 =>
 (if (!r5) then
 K (0,0,0,0,0,false,ByteArray.mk #[],()) false
 else
 (if (!ByteArray.toList r76 == ByteArray.toList a0) then
 K (0,0,0,0,0,false,ByteArray.mk #[],()) false
 else
 K (r4,r6,r61,r62,w64 (0 - v65),false,ByteArray.extract a0 (26:Nat) (Int.toNat (↑(ByteArray.size a0):Int)),()) true)))
 else
 False)
 else
 False)
 else
 (if 0≤(↑(ByteArray.size a0):Int)∧(↑(ByteArray.size a0):Int)≤(↑(ByteArray.size a0):Int) then
 (if (0 :Int)≤26∧26≤(↑(ByteArray.size a0):Int) then
 xq1w (r4,r6,r61,r62,v65,false,ByteArray.extract a0 (26:Nat) (Int.toNat (↑(ByteArray.size a0):Int)),()) (fun r78 r79 =>
 (if (!r5) then
 K (0,0,0,0,0,false,ByteArray.mk #[],()) false
 else
 (if (!ByteArray.toList r78 == ByteArray.toList a0) then
 K (0,0,0,0,0,false,ByteArray.mk #[],()) false
 else
 K (r4,r6,r61,r62,v65,false,ByteArray.extract a0 (26:Nat) (Int.toNat (↑(ByteArray.size a0):Int)),()) true)))
 else
 False)
 else
 False))
 else
 False))
 else
 False))))
 else
 False)
 else
 False)))))
 ∧
 xq0p (ByteArray.extract a0 (11:Nat) (13:Nat)) (fun r80 =>
 xq0p (ByteArray.extract a0 (14:Nat) (16:Nat)) (fun r81 =>
 xq0p (ByteArray.extract a0 (17:Nat) (19:Nat)) (fun r82 =>
 (if (0 :Int)≤22∧22≤(↑(ByteArray.size a0):Int) then
 (if (0 :Int)≤25∧25≤(↑(ByteArray.size a0):Int) then
 xq0p (ByteArray.extract a0 (20:Nat) (22:Nat)) (fun r83 =>
 xq0p (ByteArray.extract a0 (23:Nat) (25:Nat)) (fun r84 =>
 (lt (w64 (w64 (3600 * r83)+w64 (60 * r84))) fun v85 =>
 (if (0 :Int)≤25∧25 < (↑(ByteArray.size a0):Int) then
 (if (Eng.bAt a0 (25:Nat) == 58) then
 (if decide ((↑(ByteArray.size a0):Int) > 28) then
 (if (0 :Int)≤28∧28≤(↑(ByteArray.size a0):Int) then
 xq0p (ByteArray.extract a0 (26:Nat) (28:Nat)) (fun r86 =>
 (if (0 :Int)≤19∧19 < (↑(ByteArray.size a0):Int) then
 (if (Eng.bAt a0 (19:Nat) == 45) then
 (lt (w64 (0 - w64 (v85+r86))) fun v87 =>
 (if 0≤(↑(ByteArray.size a0):Int)∧(↑(ByteArray.size a0):Int)≤(↑(ByteArray.size a0):Int) then
 (if (0 :Int)≤29∧29≤(↑(ByteArray.size a0):Int) then
 xq1w (r4,r80,r81,r82,v87,false,ByteArray.extract a0 (29:Nat) (Int.toNat (↑(ByteArray.size a0):Int)),()) (fun r88 r89 =>
 (if (!r5) then
 K (0,0,0,0,0,false,ByteArray.mk #[],()) false
 else
 (if (!ByteArray.toList r88 == ByteArray.toList a0) then
 K (0,0,0,0,0,false,ByteArray.mk #[],()) false
 else
 K (r4,r80,r81,r82,v87,false,ByteArray.extract a0 (29:Nat) (Int.toNat (↑(ByteArray.size a0):Int)),()) true)))
 else
 False)
 else
 False))
 else
 (if 0≤(↑(ByteArray.size a0):Int)∧(↑(ByteArray.size a0):Int)≤(↑(ByteArray.size a0):Int) then
 (if (0 :Int)≤29∧29≤(↑(ByteArray.size a0):Int) then
 xq1w (r4,r80,r81,r82,w64 (v85+r86),false,ByteArray.extract a0 (29:Nat) (Int.toNat (↑(ByteArray.size a0):Int)),()) (fun r90 r91 =>
 (if (!r5) then
 K (0,0,0,0,0,false,ByteArray.mk #[],()) false
 else
 (if (!ByteArray.toList r90 == ByteArray.toList a0) then
 K (0,0,0,0,0,false,ByteArray.mk #[],()) false
 else
 K (r4,r80,r81,r82,w64 (v85+r86),false,ByteArray.extract a0 (29:Nat) (Int.toNat (↑(ByteArray.size a0):Int)),()) true)))
 else
 False)
 else
 False))
 else
 False))
 else
 False)
 else
 (if (0 :Int)≤19∧19 < (↑(ByteArray.size a0):Int) then
 (if (Eng.bAt a0 (19:Nat) == 45) then
 (if 0≤(↑(ByteArray.size a0):Int)∧(↑(ByteArray.size a0):Int)≤(↑(ByteArray.size a0):Int) then
 (if (0 :Int)≤26∧26≤(↑(ByteArray.size a0):Int) then
 xq1w (r4,r80,r81,r82,w64 (0 - v85),false,ByteArray.extract a0 (26:Nat) (Int.toNat (↑(ByteArray.size a0):Int)),()) (fun r92 r93 =>
 (if (!r5) then
 K (0,0,0,0,0,false,ByteArray.mk #[],()) false
 else
 (if (!ByteArray.toList r92 == ByteArray.toList a0) then
 K (0,0,0,0,0,false,ByteArray.mk #[],()) false
 else
 K (r4,r80,r81,r82,w64 (0 - v85),false,ByteArray.extract a0 (26:Nat) (Int.toNat (↑(ByteArray.size a0):Int)),()) true)))
 else
 False)
 else
 False)
 else
 (if 0≤(↑(ByteArray.size a0):Int)∧(↑(ByteArray.size a0):Int)≤(↑(ByteArray.size a0):Int) then
 (if (0 :Int)≤26∧26≤(↑(ByteArray.size a0):Int) then
 xq1w (r4,r80,r81,r82,v85,false,ByteArray.extract a0 (26:Nat) (Int.toNat (↑(ByteArray.size a0):Int)),()) (fun r94 r95 =>
 (if (!r5) then
 K (0,0,0,0,0,false,ByteArray.mk #[],()) false
 else
 (if (!ByteArray.toList r94 == ByteArray.toList a0) then
 K (0,0,0,0,0,false,ByteArray.mk #[],()) false
 else
 K (r4,r80,r81,r82,v85,false,ByteArray.extract a0 (26:Nat) (Int.toNat (↑(ByteArray.size a0):Int)),()) true)))
 else
 False)
 else
 False))
 else
 False))
 else
 (if (0 :Int)≤19∧19 < (↑(ByteArray.size a0):Int) then
 (if (Eng.bAt a0 (19:Nat) == 45) then
 (if 0≤(↑(ByteArray.size a0):Int)∧(↑(ByteArray.size a0):Int)≤(↑(ByteArray.size a0):Int) then
 (if (0 :Int)≤26∧26≤(↑(ByteArray.size a0):Int) then
 xq1w (r4,r80,r81,r82,w64 (0 - v85),false,ByteArray.extract a0 (26:Nat) (Int.toNat (↑(ByteArray.size a0):Int)),()) (fun r96 r97 =>
 (if (!r5) then
 K (0,0,0,0,0,false,ByteArray.mk #[],()) false
 else
 (if (!ByteArray.toList r96 == ByteArray.toList a0) then
 K (0,0,0,0,0,false,ByteArray.mk #[],()) false
 else
 K (r4,r80,r81,r82,w64 (0 - v85),false,ByteArray.extract a0 (26:Nat) (Int.toNat (↑(ByteArray.size a0):Int)),()) true)))
 else
 False)
 else
 False)
 else
 (if 0≤(↑(ByteArray.size a0):Int)∧(↑(ByteArray.size a0):Int)≤(↑(ByteArray.size a0):Int) then
 (if (0 :Int)≤26∧26≤(↑(ByteArray.size a0):Int) then
 xq1w (r4,r80,r81,r82,v85,false,ByteArray.extract a0 (26:Nat) (Int.toNat (↑(ByteArray.size a0):Int)),()) (fun r98 r99 =>
 (if (!r5) then
 K (0,0,0,0,0,false,ByteArray.mk #[],()) false
 else
 (if (!ByteArray.toList r98 == ByteArray.toList a0) then
 K (0,0,0,0,0,false,ByteArray.mk #[],()) false
 else
 K (r4,r80,r81,r82,v85,false,ByteArray.extract a0 (26:Nat) (Int.toNat (↑(ByteArray.size a0):Int)),()) true)))
 else
 False)
 else
 False))
 else
 False))
 else
 False))))
 else
 False)
 else
 False)))))
 else
 False)
 else
 False)
 else
 False)))))
 else
 False)
 else
 False)
 else
 False)))
def Xq1g:Tq1g:=Yq1g Xq0p Xq0h Xq1w
def Jq1g (X:Tq1g):Inst:=mkI 30 mpL51 .nil mpL56 .nil X
def Iq1g:Inst:=Jq1g Xq1g
theorem Eq1g (xq0p:Tq0p) (xq0h:Tq0h) (xq1w:Tq1w):EqF Tryz.prog 92 gives Tryz.f30 [Jq0p xq0p,Jq0h xq0h,Jq1w xq1w] [] (Jq1g (Yq1g xq0p xq0h xq1w)):=fun x y K=>by kernel_rfl
theorem Iq1g_ok:InstOk Tryz.prog G.1 Iq1g:=iok (gives:=gives) [] (okCons Iq0p_ok (okCons Iq0h_ok (okCons Iq1w_ok okNil))) 92 follows Tryz.func30 (by kernel_rfl) (fun x=>by kernel_rfl) (Eq1g Xq0p Xq0h Xq1w)
abbrev Tq1y:Type:=mQ22→Int→(ByteArray→Int→Prop)→Prop
def Yq1y (xq0u:Tq0u) (xq1w:Tq1w) (a0:mQ22) (a1:Int) (K:ByteArray→Int→Prop):Prop :=
 xq0u a0 a1 (fun r2 r3 =>
 (if (r3 != 0) then
 K (ByteArray.mk #[]) r3
 else
 xq1w r2 (fun r4 r5 =>
 K r4 0)))
def Xq1y:Tq1y:=Yq1y Xq0u Xq1w
def Jq1y (X:Tq1y):Inst:=mkI 32 mpL33 .nil mpL57 .nil X
def Iq1y:Inst:=Jq1y Xq1y
theorem Eq1y (xq0u:Tq0u) (xq1w:Tq1w):EqF Tryz.prog 25 gives Tryz.f32 [Jq0u xq0u,Jq1w xq1w] [] (Jq1y (Yq1y xq0u xq1w)):=fun x y K=>by kernel_rfl
theorem Iq1y_ok:InstOk Tryz.prog G.1 Iq1y:=iok (gives:=gives) [] (okCons Iq0u_ok (okCons Iq1w_ok okNil)) 25 follows Tryz.func32 (by kernel_rfl) (fun x=>by kernel_rfl) (Eq1y Xq0u Xq1w)
abbrev Tq1q:Type:=mQ22→ByteArray→(Int→Int→Prop)→Prop
def Lq1q_0 (xq1y:Tq1y) (K:Int→Int→Prop):(mQ58→Prop)→mQ58→Prop:=fun k9 x10 =>
 (if decide (x10.1.2.2.2.2.2.1 < 600) then
 xq1y x10.2.1 (w64 (x10.1.2.2.2.2.1+x10.1.2.2.2.2.2.1)) (fun r11 r12 =>
 (if (r12 == 0) then
 (if (ByteArray.toList r11 == ByteArray.toList x10.1.1) then
 K (w64 (x10.1.2.2.2.2.1+x10.1.2.2.2.2.2.1)) 0
 else
 k9 ((x10.1.1,(),x10.1.2.2.1,x10.1.2.2.2.1,x10.1.2.2.2.2.1,w64 (x10.1.2.2.2.2.2.1+1),()),x10.2))
 else
 k9 ((x10.1.1,(),x10.1.2.2.1,x10.1.2.2.2.1,x10.1.2.2.2.2.1,w64 (x10.1.2.2.2.2.2.1+1),()),x10.2)))
 else
 K 0 11)
def Lq1q_0p:Lp:=⟨1590,[.trim 1590],mpT59,mpH32,0⟩
def Yq1q (xq17:Tq17) (xq1g:Tq1g) (xq1y:Tq1y) (a0:mQ22) (a1:ByteArray) (K:Int→Int→Prop):Prop :=
 xq17 a0 (fun r2 =>
 (if (!r2) then
 K 0 1
 else
 xq1g a1 (fun r3 r4 =>
 (if (!r4) then
 K 0 2
 else
 (lt (w64 (w64 (86400 * r3.1)+w64 (3600 * r3.2.1))) fun v5 =>
 (lt (w64 (v5+w64 (60 * r3.2.2.1))) fun v6 =>
 (lt (w64 (w64 (v6+r3.2.2.2.1) - r3.2.2.2.2.1)) fun v7 =>
 (lt (w64 (w64 (v7 - 63072000) - 300)) fun v8 =>
 lp (Lq1q_0 xq1y K) ((a1,(),0,0,v8,0,()),a0,())))))))))
def Xq1q:Tq1q:=Yq1q Xq17 Xq1g Xq1y
def Jq1q (X:Tq1q):Inst:=mkI 34 mpL60 .nil mpL0 .nil X
def Iq1q:Inst:=Jq1q Xq1q
theorem Eq1q (xq17:Tq17) (xq1g:Tq1g) (xq1y:Tq1y):EqF Tryz.prog 65 gives Tryz.f34 [Jq17 xq17,Jq1g xq1g,Jq1y xq1y] [Lq1q_0p] (Jq1q (Yq1q xq17 xq1g xq1y)):=fun x y K=>by kernel_rfl
theorem Iq1q_ok:InstOk Tryz.prog G.1 Iq1q:=iok (gives:=gives) [Lq1q_0p] (okCons Iq17_ok (okCons Iq1g_ok (okCons Iq1y_ok okNil))) 65 follows Tryz.func34 (by kernel_rfl) (fun x=>by kernel_rfl) (Eq1q Xq17 Xq1g Xq1y)
abbrev Tq06:Type:=mQ22→Int→mQ47→ByteArray→(Bool→Prop)→Prop
def Yq06 (xq13:Tq13) (xq26:Tq26) (xq3d:Tq3d) (xq0u:Tq0u) (xq41:Tq41) (xq1w:Tq1w) (xq34:Tq34) (xq1g:Tq1g) (xq3w:Tq3w) (xq1y:Tq1y) (xq3j:Tq3j) (xq1q:Tq1q) (xq3b:Tq3b) (xq17:Tq17) (a0:mQ22) (a1:Int) (a2:mQ47) (a3:ByteArray) (K:Bool→Prop):Prop :=
 xq13 (fun r4 =>
 xq26 a0 (fun r5 =>
 (if (!r5) then
 K r4
 else
 (if decide ((↑(ByteArray.size a3):Int) > 200) then
 K r4
 else
 (if decide ((↑(ByteArray.size a2.2.2.2.2.2.2.1):Int) > 100) then
 K r4
 else
 xq3d a0 a1 (fun r6 r7 =>
 xq0u a0 a1 (fun r8 r9 =>
 xq41 a2 (fun r10 r11 =>
 xq1w a2 (fun r12 r13 =>
 xq34 a3 (fun r14 r15 =>
 xq1g a3 (fun r16 r17 =>
 xq3w a0 a1 (fun r18 r19 =>
 xq1y a0 a1 (fun r20 r21 =>
 xq3j a0 a3 (fun r22 r23 =>
 xq1q a0 a3 (fun r24 r25 =>
 (if r4 then
 (lt (r6.1 == r8.1 && (r6.2.1 == r8.2.1 && (r6.2.2.1 == r8.2.2.1 && (r6.2.2.2.1 == r8.2.2.2.1 && (r6.2.2.2.2.1 == r8.2.2.2.2.1 && (r6.2.2.2.2.2.1 == r8.2.2.2.2.2.1 && (ByteArray.toList r6.2.2.2.2.2.2.1 == ByteArray.toList r8.2.2.2.2.2.2.1 && true))))))) fun v26 =>
 (if v26 then
 (if (r7 == r9) then
 (if (ByteArray.toList r10 == ByteArray.toList r12) then
 (if (r11 == r13) then
 (lt (r14.1 == r16.1 && (r14.2.1 == r16.2.1 && (r14.2.2.1 == r16.2.2.1 && (r14.2.2.2.1 == r16.2.2.2.1 && (r14.2.2.2.2.1 == r16.2.2.2.2.1 && (r14.2.2.2.2.2.1 == r16.2.2.2.2.2.1 && (ByteArray.toList r14.2.2.2.2.2.2.1 == ByteArray.toList r16.2.2.2.2.2.2.1 && true))))))) fun v27 =>
 (if v27 then
 (if (r15 == r17) then
 (if (ByteArray.toList r18 == ByteArray.toList r20) then
 (if (r19 == r21) then
 (if (r22 == r24) then
 (if (r23 == r25) then
 xq3b a0 (fun r28 =>
 xq17 a0 (fun r29 =>
 K (r28 == r29)))
 else
 K false)
 else
 K false)
 else
 K false)
 else
 K false)
 else
 K false)
 else
 K false))
 else
 K false)
 else
 K false)
 else
 K false)
 else
 K false))
 else
 K false))))))))))))))))
def Xq06:Tq06:=Yq06 Xq13 Xq26 Xq3d Xq0u Xq41 Xq1w Xq34 Xq1g Xq3w Xq1y Xq3j Xq1q Xq3b Xq17
def Jq06 (X:Tq06):Inst:=mkI 8 mpL61 .nil mpL3 .nil X
def Iq06:Inst:=Jq06 Xq06
theorem Eq06 (xq13:Tq13) (xq26:Tq26) (xq3d:Tq3d) (xq0u:Tq0u) (xq41:Tq41) (xq1w:Tq1w) (xq34:Tq34) (xq1g:Tq1g) (xq3w:Tq3w) (xq1y:Tq1y) (xq3j:Tq3j) (xq1q:Tq1q) (xq3b:Tq3b) (xq17:Tq17):EqF Tryz.prog 162 gives Tryz.f8 [Jq13 xq13,Jq26 xq26,Jq3d xq3d,Jq0u xq0u,Jq41 xq41,Jq1w xq1w,Jq34 xq34,Jq1g xq1g,Jq3w xq3w,Jq1y xq1y,Jq3j xq3j,Jq1q xq1q,Jq3b xq3b,Jq17 xq17] [] (Jq06 (Yq06 xq13 xq26 xq3d xq0u xq41 xq1w xq34 xq1g xq3w xq1y xq3j xq1q xq3b xq17)):=fun x y K=>by kernel_rfl
theorem Iq06_ok:InstOk Tryz.prog G.1 Iq06:=iok (gives:=gives) [] (okCons Iq13_ok (okCons Iq26_ok (okCons Iq3d_ok (okCons Iq0u_ok (okCons Iq41_ok (okCons Iq1w_ok (okCons Iq34_ok (okCons Iq1g_ok (okCons Iq3w_ok (okCons Iq1y_ok (okCons Iq3j_ok (okCons Iq1q_ok (okCons Iq3b_ok (okCons Iq17_ok okNil)))))))))))))) 162 follows Tryz.func8 (by kernel_rfl) (fun x=>by kernel_rfl) (Eq06 Xq13 Xq26 Xq3d Xq0u Xq41 Xq1w Xq34 Xq1g Xq3w Xq1y Xq3j Xq1q Xq3b Xq17)
end Go.Proofs.YtbnpclndiichcaaGreatDoor
end
section
set_option linter.unusedVariables false
set_option linter.unusedSimpArgs false
namespace Go.Proofs.YtbnpclndiichcaaGreatDoor
open Go Go.Proofs.YtbnpclndiichcaaGreatDoor.Eng
abbrev akLocalTells0:AK:=(.st (.cons (.sl (.st (.cons (.int .i64) (.cons .bool (.cons .str .nil))))) (.cons (.sl (.st (.cons (.int .i64) (.cons (.int .i64) .nil)))) (.cons (.sl (.st (.cons (.int .i64) (.cons (.int .i64) .nil)))) (.cons .str (.cons (.int .i64) .nil))))))
abbrev akLocalTells1:AK:=(.int .i64)
abbrev akLocalTells2:AK:=(.st (.cons (.int .i64) (.cons (.int .i64) (.cons (.int .i64) (.cons (.int .i64) (.cons (.int .i64) (.cons .bool (.cons .str .nil))))))))
abbrev akLocalTells3:AK:=.str
def PureLocalTells:Prop:=∀ (a0:akLocalTells0.T) (h0:akLocalTells0.good a0) (a1:akLocalTells1.T) (h1:akLocalTells1.good a1) (a2:akLocalTells2.T) (h2:akLocalTells2.good a2) (a3:akLocalTells3.T) (h3:akLocalTells3.good a3),Xq06 (akLocalTells0.DV a0) (akLocalTells1.DV a1) (akLocalTells2.DV a2) (akLocalTells3.DV a3) (fun b=>b=true)
end Go.Proofs.YtbnpclndiichcaaGreatDoor
end
section
set_option linter.unusedVariables false
set_option linter.unusedSimpArgs false
namespace Go.Proofs.YtbnpclndiichcaaGreatDoor.Pl
open Go
def digsN:Nat→Nat→List UInt8
 | 0,_=>[]
 | k+1,u=>if u < 10 then [UInt8.ofNat (48+u)] else digsN k (u / 10)++[UInt8.ofNat (48+u % 10)]
theorem digsN_eq:∀ k u,u < 10 ^ (k+1)→digsN (k+1) u=Lib.decDigits u
 | 0,u,h=>by rw [Lib.decDigits,digsN,if_pos (by simpa using h),dif_pos (by simpa using h)]
 | k+1,u,h=>by
  rw [Lib.decDigits,digsN]
  by_cases h1:u < 10
  ·rw [if_pos h1,dif_pos h1]
  ·rw [if_neg h1,dif_neg h1,digsN_eq k (u / 10) (by rw [Nat.pow_succ] at h; omega)]
def itoaK (n:Int):List UInt8:=if n < 0 then 45 :: digsN 20 n.natAbs else digsN 20 n.toNat
theorem itoaK_eq (n:Int) (h0:-9223372036854775808≤n) (h1:n≤9223372036854775807):itoaK n=Lib.itoa n:=by
 unfold itoaK Lib.itoa
 split
 ·rw [digsN_eq 19 _ (by omega)]
 ·rw [digsN_eq 19 _ (by omega)]
def isDig (c:UInt8):Bool:=48≤c.toNat && c.toNat≤57
abbrev S (l:List UInt8):ByteArray:=⟨l.toArray⟩
theorem S_size (l:List UInt8):(S l).size=l.length:=by simp [S,ByteArray.size]
theorem S_sizeI (l:List UInt8):((S l).size:Int)=(l.length:Int):=by rw [S_size]
theorem S_append (a b:List UInt8):S a++S b=S (a++b):=ByteArray.mk_append_mk a b
theorem S_toList (l:List UInt8):(S l).toList=l:=ByteArray.toList_mk l
theorem S_data (l:List UInt8):(S l).data.toList=l:=by simp [S]
theorem S_extract (l:List UInt8) (a b:Nat):(S l).extract a b=S ((l.drop a).take (b - a)):=by rw [Lib.extract_eq,S_data]
theorem S_drop (l:List UInt8) (a:Nat):(S l).extract a (S l).size=S (l.drop a):=by
 rw [S_extract,S_size,List.take_of_length_le (by simp)]
theorem u8_eq {a b:UInt8} (h:a.toNat=b.toNat):a=b:=UInt8.toNat_inj.1 h
def dl (l:List UInt8):Nat:=(l.takeWhile isDig).length
theorem dl_le (l:List UInt8):dl l≤l.length:=by unfold dl; exact (List.takeWhile_sublist _).length_le
theorem dl_cons (c:UInt8) (l:List UInt8):dl (c :: l)=if isDig c=true then dl l+1 else 0:=by
 unfold dl; rw [List.takeWhile_cons]; split <;> simp
def valL (l:List UInt8):Nat:=l.foldl (fun n c=>10 * n+(c.toNat - 48)) 0
theorem decFrom_val:∀ (l:List UInt8) (acc:Nat),(∀ c∈l,isDig c=true)→Lib.decFrom acc l=some (l.foldl (fun n c=>10 * n+(c.toNat - 48)) acc)
 | [],acc,_=>rfl
 | c :: l,acc,h=>by
  have hc:isDig c=true:=h c (by simp)
  unfold isDig at hc
  simp at hc
  unfold Lib.decFrom Lib.digitVal
  rw [if_pos hc]
  simp only []
  rw [decFrom_val l _ (fun c' hc'=>h c' (by simp [hc'])),List.foldl_cons,Nat.mul_comm]
theorem atoi_val (l:List UInt8) (hne:l≠[]) (h:∀ c∈l,isDig c=true):Lib.atoi l=some (valL l:Int):=by
 cases l with
 | nil=>exact absurd rfl hne
 | cons c r =>
  have hc:isDig c=true:=h c (by simp)
  unfold isDig at hc
  simp at hc
  have h1:(c == 45)=false:=by rw [beq_eq_false_iff_ne]; rintro rfl; simp at hc
  have h2:(c == 43)=false:=by rw [beq_eq_false_iff_ne]; rintro rfl; simp at hc
  simp only [Lib.atoi,Lib.decNat,h1,h2,Bool.false_eq_true,if_false,List.isEmpty_cons]
  rw [decFrom_val _ _ h]
  rfl
theorem take_dl_dig (l:List UInt8) (k:Nat) (h:k≤dl l):∀ c∈l.take k,isDig c=true:=by
 intro c hc
 have hs:l.take k=(l.takeWhile isDig).take k:=by
  conv=>lhs; rw [← List.takeWhile_append_dropWhile (p:=isDig) (l:=l)]
  rw [List.take_append_of_le_length h]
 rw [hs] at hc
 have hall:(l.takeWhile isDig).all isDig=true:=List.all_takeWhile
 exact List.all_eq_true.1 hall c (List.mem_of_mem_take hc)
end Go.Proofs.YtbnpclndiichcaaGreatDoor.Pl
end
section
set_option linter.unusedVariables false
set_option linter.unusedSimpArgs false
namespace Go.Proofs.YtbnpclndiichcaaGreatDoor.Pl
open Go
def sixtyL:List UInt8→Int×List UInt8×Bool
 | c :: a :: b :: r=>if c=58∧isDig a=true∧isDig b=true∧a.toNat≤53 then (10 * (a.toNat - 48)+(b.toNat - 48),r,true) else (0,c :: a :: b :: r,false)
 | l=>(0,l,false)
theorem foldl_lt:∀ (l:List UInt8) (acc:Nat),(∀ c∈l,isDig c=true)→l.foldl (fun n c=>10 * n+(c.toNat - 48)) acc < (acc+1) * 10 ^ l.length
 | [],acc,_=>by simp
 | c :: l,acc,h=>by
  have hc:isDig c=true:=h c (by simp)
  unfold isDig at hc
  simp at hc
  have:=foldl_lt l (10 * acc+(c.toNat - 48)) (fun c' hc'=>h c' (by simp [hc']))
  rw [List.foldl_cons,List.length_cons,Nat.pow_succ]
  refine Nat.lt_of_lt_of_le this ?_
  have h1:(10 * acc+(c.toNat - 48)+1)≤(acc+1) * 10:=by omega
  calc (10 * acc+(c.toNat - 48)+1) * 10 ^ l.length≤((acc+1) * 10) * 10 ^ l.length:=Nat.mul_le_mul_right _ h1
   _=(acc+1) * (10 ^ l.length * 10):=by rw [Nat.mul_assoc,Nat.mul_comm 10]
theorem valL_lt (l:List UInt8) (h:∀ c∈l,isDig c=true):valL l < 10 ^ l.length:=by
 have:=foldl_lt l 0 h
 simpa [valL] using this
theorem sixty_bd (l:List UInt8):0≤(sixtyL l).1∧(sixtyL l).1≤59:=by
 unfold sixtyL
 split
 ·split
  ·rename_i h
   obtain ⟨_,ha,hb,h5⟩:=h
   unfold isDig at ha hb
   simp at ha hb
   simp only []
   omega
  ·simp
 ·simp
def signL:List UInt8→Int×List UInt8
 | []=>(1,[])
 | c :: r=>if c=45 then (-1,r) else if c=43 then (1,r) else (1,c :: r)
def hourL (t:List UInt8):Nat×Nat :=
 if valL (t.take (min (dl t) 3)) > 167 then (valL (t.take (min (dl t) 3)) / 10,min (dl t) 3 - 1) else (valL (t.take (min (dl t) 3)),min (dl t) 3)
def moreL (p:Int×List UInt8×Bool):Int×List UInt8×Bool:=if p.2.2=true then sixtyL p.2.1 else (0,p.2.1,false)
def timeL (l:List UInt8):Int×List UInt8×Bool :=
 if dl (signL l).2=0 then (0,l,false)
 else
  ((signL l).1 * ((hourL (signL l).2).1 * 3600+(sixtyL ((signL l).2.drop (hourL (signL l).2).2)).1 * 60+(moreL (sixtyL ((signL l).2.drop (hourL (signL l).2).2))).1),
   (moreL (sixtyL ((signL l).2.drop (hourL (signL l).2).2))).2.1,true)
theorem hour_bd (t:List UInt8):(hourL t).1≤167∧(hourL t).2≤dl t∧(hourL t).2≤3∧(dl t≠0→1≤(hourL t).2):=by
 have hv:valL (t.take (min (dl t) 3)) < 10 ^ (t.take (min (dl t) 3)).length:=valL_lt _ (take_dl_dig t _ (Nat.min_le_left _ _))
 have hl:(t.take (min (dl t) 3)).length≤3:=by rw [List.length_take]; omega
 have h3:10 ^ (t.take (min (dl t) 3)).length≤10 ^ 3:=Nat.pow_le_pow_right (by omega) hl
 have hm:min (dl t) 3≤dl t:=Nat.min_le_left _ _
 have hm3:min (dl t) 3≤3:=Nat.min_le_right _ _
 unfold hourL
 split
 ·rename_i hgt
  refine ⟨by simp only []; omega,by simp only []; omega,by simp only []; omega,fun h0=>?_⟩
  simp only []
  have:¬ (t.take (min (dl t) 3)).length≤1:=fun h1=>by
   have:10 ^ (t.take (min (dl t) 3)).length≤10 ^ 1:=Nat.pow_le_pow_right (by omega) h1
   omega
  rw [List.length_take] at this
  omega
 ·refine ⟨by simp only []; omega,by simp only []; omega,by simp only []; omega,fun h0=>by simp only []; omega⟩
def pairL (m:Nat):List UInt8:=58 :: (digsN 20 (m / 10)++digsN 20 (m % 10))
theorem digsN_len:∀ k u,(digsN k u).length≤k
 | 0,_=>by simp [digsN]
 | k+1,u=>by
  rw [digsN]
  split
  ·simp
  ·have:=digsN_len k (u / 10); simp; omega
def clockB (a:Nat):List UInt8:=digsN 20 (a / 3600)++(if a % 60≠0 then pairL (a / 60 % 60)++pairL (a % 60) else if a / 60 % 60≠0 then pairL (a / 60 % 60) else [])
def clockL (sec:Int):List UInt8×Bool:=if -604799≤sec∧sec≤604799 then ((if sec < 0 then [45] else [])++clockB sec.natAbs,true) else ([],false)
theorem sixty_drop (l:List UInt8):∃ j,j≤l.length∧(sixtyL l).2.1=l.drop j:=by
 unfold sixtyL
 split
 ·split
  ·exact ⟨3,by simp,rfl⟩
  ·exact ⟨0,by simp,rfl⟩
 ·exact ⟨0,by simp,rfl⟩
theorem sign_drop (l:List UInt8):∃ j,j≤l.length∧(signL l).2=l.drop j∧((signL l).1=1∨(signL l).1=-1):=by
 unfold signL
 split
 ·exact ⟨0,by simp,rfl,.inl rfl⟩
 ·split
  ·exact ⟨1,by simp,rfl,.inr rfl⟩
  ·split
   ·exact ⟨1,by simp,rfl,.inl rfl⟩
   ·exact ⟨0,by simp,rfl,.inl rfl⟩
theorem time_drop (l:List UInt8):∃ j,j≤l.length∧(timeL l).2.1=l.drop j∧((timeL l).2.2=true↔0 < j)∧-604799≤(timeL l).1∧(timeL l).1≤604799∧((timeL l).2.2=false→(timeL l).1=0∧j=0):=by
 obtain ⟨j0,h0,e0,hs⟩:=sign_drop l
 unfold timeL
 by_cases hd:dl (signL l).2=0
 ·rw [if_pos hd]
  exact ⟨0,by omega,by simp,by simp,by simp,by simp,by simp⟩
 ·rw [if_neg hd]
  obtain ⟨b1,b2,b3,b4⟩:=hour_bd (signL l).2
  have b4':=b4 hd
  have hdl:=dl_le (signL l).2
  obtain ⟨j1,h1,e1⟩:=sixty_drop ((signL l).2.drop (hourL (signL l).2).2)
  have s1:=sixty_bd ((signL l).2.drop (hourL (signL l).2).2)
  have key:∃ j2,j2≤(sixtyL ((signL l).2.drop (hourL (signL l).2).2)).2.1.length∧(moreL (sixtyL ((signL l).2.drop (hourL (signL l).2).2))).2.1=(sixtyL ((signL l).2.drop (hourL (signL l).2).2)).2.1.drop j2 ∧
    0≤(moreL (sixtyL ((signL l).2.drop (hourL (signL l).2).2))).1∧(moreL (sixtyL ((signL l).2.drop (hourL (signL l).2).2))).1≤59:=by
   unfold moreL
   split
   ·obtain ⟨j2,h2,e2⟩:=sixty_drop (sixtyL ((signL l).2.drop (hourL (signL l).2).2)).2.1
    exact ⟨j2,h2,e2,sixty_bd _⟩
   ·exact ⟨0,by omega,rfl,by simp,by simp⟩
  obtain ⟨j2,h2,e2,hb1,hb2⟩:=key
  rw [e2,e1,e0,List.drop_drop,List.drop_drop,List.drop_drop]
  rw [e1] at h2
  rw [e0] at h1 h2 hdl b2
  simp only [List.length_drop] at h1 h2 hdl
  rw [e0] at b4' b3 s1 hb1 hb2
  refine ⟨_,?_,rfl,?_,?_⟩
  ·omega
  ·simp; omega
  ·generalize (sixtyL (List.drop (hourL (List.drop j0 l)).2 (List.drop j0 l))).1=x at *
   generalize (moreL (sixtyL (List.drop (hourL (List.drop j0 l)).2 (List.drop j0 l)))).1=y at *
   rw [e0] at b1
   generalize (hourL (List.drop j0 l)).1=v at *
   rcases hs with hs | hs <;> rw [hs] <;> refine ⟨?_,?_,by simp⟩ <;> omega
end Go.Proofs.YtbnpclndiichcaaGreatDoor.Pl
end
section
set_option linter.unusedVariables false
set_option linter.unusedSimpArgs false
namespace Go.Proofs.YtbnpclndiichcaaGreatDoor.Pl
open Go
def leapY (y:Int):Bool:=decide (y % 4=0∧(y % 100≠0∨y % 400=0))
def fst (y:Int):Int:=365 * (y - 1)+(y - 1) / 4 - (y - 1) / 100+(y - 1) / 400 - 719162
def cum0 (m:Int):Int:=if m=1 then 0 else if m=2 then 31 else if m=3 then 59 else if m=4 then 90 else if m=5 then 120 else if m=6 then 151 else if m=7 then 181 else if m=8 then 212 else if m=9 then 243 else if m=10 then 273 else if m=11 then 304 else if m=12 then 334 else 365
def cum (y m:Int):Int:=cum0 m+if 2 < m∧leapY y=true then 1 else 0
def dim (y m:Int):Int:=if m=2 then (if leapY y=true then 29 else 28) else if m=4 then 30 else if m=6 then 30 else if m=9 then 30 else if m=11 then 30 else 31
def num (y m d:Int):Int:=fst y+cum y m+d - 1
def Vld (y m d:Int):Prop:=1≤y∧y≤9999∧1≤m∧m≤12∧1≤d∧d≤dim y m
theorem leapY_iff (y:Int):leapY y=true↔(y % 4=0∧(y % 100≠0∨y % 400=0)):=by unfold leapY; exact decide_eq_true_iff
theorem month_cases {m:Int} (h1:1≤m) (h2:m≤12):m=1∨m=2∨m=3∨m=4∨m=5∨m=6∨m=7∨m=8∨m=9∨m=10∨m=11∨m=12:=by omega
theorem dim_bd (y m:Int):28≤dim y m∧dim y m≤31:=by unfold dim; repeat' split <;> omega
theorem fst_succ (y:Int):fst (y+1)=fst y+365+if leapY y=true then 1 else 0:=by
 have:=leapY_iff y
 unfold fst
 by_cases h:leapY y=true
 ·rw [if_pos h]; have:=this.1 h; omega
 ·rw [if_neg h]
  have h':¬ (y % 4=0∧(y % 100≠0∨y % 400=0)):=fun z=>h (this.2 z)
  omega
theorem cum_succ (y m:Int) (h1:1≤m) (h2:m≤12):cum y m+dim y m=if m=12 then 365+(if leapY y=true then 1 else 0) else cum y (m+1):=by
 rcases month_cases h1 h2 with rfl | rfl | rfl | rfl | rfl | rfl | rfl | rfl | rfl | rfl | rfl | rfl <;>
  cases hl:leapY y <;> simp [cum,cum0,dim,hl]
theorem num_bd {y m d:Int} (h:Vld y m d):fst y≤num y m d∧num y m d < fst (y+1):=by
 obtain ⟨_,_,h1,h2,h3,h4⟩:=h
 rw [fst_succ]
 unfold num
 rcases month_cases h1 h2 with rfl | rfl | rfl | rfl | rfl | rfl | rfl | rfl | rfl | rfl | rfl | rfl <;>
  cases hl:leapY y <;> simp [cum,cum0,dim,hl] at h4 ⊢ <;> omega
theorem fst_bd {y:Int} (h1:1≤y) (h2:y≤9999):-719162≤fst y∧fst (y+1)≤2932897:=by unfold fst; omega
theorem fst_le {y z:Int} (h:y≤z):fst y≤fst z:=by unfold fst; omega
theorem num_range {y m d:Int} (h:Vld y m d):-719162≤num y m d∧num y m d≤2932896:=by
 have:=num_bd h
 have:=fst_bd h.1 h.2.1
 omega
def sy (y m:Int):Int:=if m < 3 then y - 1 else y
def sm (m:Int):Int:=if m < 3 then m+12 else m
def numP (y m d:Int):Int:=146097 * (sy y m / 400)+365 * (sy y m % 400)+(sy y m % 400) / 4 - (sy y m % 400) / 100+((153 * (sm m - 3)+2) / 5+d - 1) - 719468
theorem numP_eq {y m d:Int} (h1:1≤m) (h2:m≤12):numP y m d=num y m d:=by
 have hl:=leapY_iff y
 have key:∀ b:Bool,leapY y=b→numP y m d=num y m d:=by
  intro b hb
  cases b with
  | true =>
   have hl':=hl.1 hb
   rcases month_cases h1 h2 with rfl | rfl | rfl | rfl | rfl | rfl | rfl | rfl | rfl | rfl | rfl | rfl <;>
    simp [numP,num,fst,cum,cum0,sy,sm,hb] <;> omega
  | false =>
   have hl':¬ (y % 4=0∧(y % 100≠0∨y % 400=0)):=fun z=>by rw [hl.2 z] at hb; cases hb
   rcases month_cases h1 h2 with rfl | rfl | rfl | rfl | rfl | rfl | rfl | rfl | rfl | rfl | rfl | rfl <;>
    simp [numP,num,fst,cum,cum0,sy,sm,hb] <;> omega
 exact key _ rfl
def st (b:Int):Int:=365 * b+b / 4 - b / 100
def gy (o:Int):Int:=o - o / 1460+o / 36524 - o / 146096
theorem gy_mono {a b:Int} (h0:0≤a) (h:a≤b) (hb:b≤146096):gy a≤gy b:=by unfold gy; omega
theorem ends:∀ n:Nat,n < 400→(gy (st n) / 365=n∧gy (st (n+1) - (if n=399 then 0 else 1)) / 365=n):=by decide +kernel
theorem year_of {o b:Int} (h0:0≤b) (h1:b < 400) (h2:st b≤o) (h3:o < st (b+1)∨(b=399∧o≤146096)):gy o / 365=b:=by
 obtain ⟨n,rfl⟩:=Int.eq_ofNat_of_zero_le h0
 obtain ⟨e1,e2⟩:=ends n (by omega)
 have hs0:0≤st n:=by unfold st; omega
 have hs1:st (n+1)≤146097:=by unfold st; omega
 by_cases hn:n=399
 ·subst hn
  have hm:st ((399:Nat)+1)=146096:=by decide
  rw [if_pos rfl,hm] at e2
  have ho:o≤146096:=by
   rcases h3 with h3 | h3
   ·have:((399:Nat):Int)+1=400:=rfl
    rw [this] at h3; have:st 400=146096:=by decide
    omega
   ·exact h3.2
  have g1:=gy_mono hs0 h2 ho
  have g2:=gy_mono (by omega:0≤o) ho (Int.le_refl _)
  simp only [Int.sub_zero] at e2
  omega
 ·rw [if_neg hn] at e2
  have ho:o≤st (n+1) - 1:=by
   rcases h3 with h3 | h3
   ·omega
   ·omega
  have g1:=gy_mono hs0 h2 (by omega)
  have g2:=gy_mono (by omega:0≤o) ho (by omega)
  omega
def era (n:Int):Int:=(n+719468) / 146097
def ofE (n:Int):Int:=(n+719468) % 146097
def yrs (n:Int):Int:=gy (ofE n) / 365
def doy (n:Int):Int:=ofE n - st (yrs n)
def mon (n:Int):Int:=(5 * doy n+2) / 153
def dayP (n:Int):Int:=doy n - (153 * mon n+2) / 5+1
def monP (n:Int):Int:=if mon n+3 > 12 then mon n+3 - 12 else mon n+3
def yearP (n:Int):Int:=400 * era n+(if mon n+3 > 12 then yrs n+1 else yrs n)
theorem date_num' {y m d:Int} (h:Vld y m d):(0≤doy (num y m d)∧doy (num y m d)≤365)∧yearP (num y m d)=y∧monP (num y m d)=m∧dayP (num y m d)=d:=by
 obtain ⟨a1,a2,h1,h2,h3,h4⟩:=h
 have hl:=leapY_iff y
 rw [← numP_eq h1 h2]
 have hb:0≤sy y m % 400∧sy y m % 400 < 400:=by omega
 have hdoy:0≤(153 * (sm m - 3)+2) / 5+d - 1∧st (sy y m % 400)+((153 * (sm m - 3)+2) / 5+d - 1)≤146096 ∧
   (st (sy y m % 400)+((153 * (sm m - 3)+2) / 5+d - 1) < st (sy y m % 400+1)∨sy y m % 400=399):=by
  unfold st
  cases hb':leapY y with
  | true =>
   have hl':=hl.1 hb'
   rcases month_cases h1 h2 with rfl | rfl | rfl | rfl | rfl | rfl | rfl | rfl | rfl | rfl | rfl | rfl <;>
    simp [sy,sm,dim,hb'] at h4 ⊢ <;> omega
  | false =>
   have hl':¬ (y % 4=0∧(y % 100≠0∨y % 400=0)):=fun z=>by rw [hl.2 z] at hb'; cases hb'
   rcases month_cases h1 h2 with rfl | rfl | rfl | rfl | rfl | rfl | rfl | rfl | rfl | rfl | rfl | rfl <;>
    simp [sy,sm,dim,hb'] at h4 ⊢ <;> omega
 have hst0:0≤st (sy y m % 400):=by unfold st; omega
 have hN:numP y m d+719468=146097 * (sy y m / 400)+(st (sy y m % 400)+((153 * (sm m - 3)+2) / 5+d - 1)):=by unfold numP st; omega
 have hera:era (numP y m d)=sy y m / 400:=by unfold era; omega
 have hof:ofE (numP y m d)=st (sy y m % 400)+((153 * (sm m - 3)+2) / 5+d - 1):=by unfold ofE; omega
 have hyrs:yrs (numP y m d)=sy y m % 400:=by
  unfold yrs
  rw [hof]
  refine year_of hb.1 hb.2 (by omega) ?_
  rcases hdoy.2.2 with h | h
  ·exact .inl h
  ·exact .inr ⟨h,hdoy.2.1⟩
 have hdy:doy (numP y m d)=(153 * (sm m - 3)+2) / 5+d - 1:=by unfold doy; rw [hof,hyrs]; omega
 have hdd:=dim_bd y m
 have hmon:mon (numP y m d)=sm m - 3:=by
  unfold mon
  rw [hdy]
  rcases month_cases h1 h2 with rfl | rfl | rfl | rfl | rfl | rfl | rfl | rfl | rfl | rfl | rfl | rfl <;>
   simp [sm,dim] at h4 ⊢ <;> omega
 refine ⟨?_,?_,?_,?_⟩
 ·rw [hdy]
  rcases month_cases h1 h2 with rfl | rfl | rfl | rfl | rfl | rfl | rfl | rfl | rfl | rfl | rfl | rfl <;>
   simp [sm,dim] at h4 ⊢ <;> omega
 ·unfold yearP
  rw [hera,hyrs,hmon]
  rcases month_cases h1 h2 with rfl | rfl | rfl | rfl | rfl | rfl | rfl | rfl | rfl | rfl | rfl | rfl <;>
   simp [sm,sy] <;> omega
 ·unfold monP
  rw [hmon]
  rcases month_cases h1 h2 with rfl | rfl | rfl | rfl | rfl | rfl | rfl | rfl | rfl | rfl | rfl | rfl <;> simp [sm]
 ·unfold dayP
  rw [hdy,hmon]
  omega
theorem date_num {y m d:Int} (h:Vld y m d):yearP (num y m d)=y∧monP (num y m d)=m∧dayP (num y m d)=d:=(date_num' h).2
theorem year_ex (n:Int) (h0:fst 1≤n):∀ k:Nat,n < fst (1+k)→∃ y:Int,1≤y∧y≤k∧fst y≤n∧n < fst (y+1)
 | 0,h=>by simp at h; omega
 | k+1,h=>by
  by_cases h1:n < fst (1+k)
  ·obtain ⟨y,a,b,c,d⟩:=year_ex n h0 k h1
   exact ⟨y,a,by omega,c,d⟩
  ·exact ⟨1+k,by omega,by omega,by omega,by have e:((k+1:Nat):Int)=(k:Int)+1:=rfl; rw [e] at h; rw [Int.add_assoc]; exact h⟩
theorem cum_mono (y m:Int) (h1:1≤m) (h2:m < 12):cum y m+28≤cum y (m+1):=by
 have:=cum_succ y m h1 (by omega)
 rw [if_neg (by omega)] at this
 have:=dim_bd y m
 omega
theorem month_ex (y r:Int) (h0:0≤r):∀ k:Nat,k < 12→r < cum y (1+k)→∃ m:Int,1≤m∧m≤k∧cum y m≤r∧r < cum y (m+1)
 | 0,_,h=>by simp [cum,cum0] at h; omega
 | k+1,hk,h=>by
  by_cases h1:r < cum y (1+k)
  ·obtain ⟨m,a,b,c,d⟩:=month_ex y r h0 k (by omega) h1
   exact ⟨m,a,by omega,c,d⟩
  ·exact ⟨1+k,by omega,by omega,by omega,by have e:((k+1:Nat):Int)=(k:Int)+1:=rfl; rw [e] at h; rw [Int.add_assoc]; exact h⟩
theorem date_ex {n:Int} (h0:-719162≤n) (h1:n≤2932896):∃ y m d,Vld y m d∧num y m d=n:=by
 obtain ⟨y,a,b,c,e⟩:=year_ex n (by
                     have:fst 1=-719162:=by decide
                     omega) 9999 (by
                             have:fst (1+(9999:Nat))=2932897:=by decide
                             omega)
 rw [fst_succ] at e
 by_cases h:n - fst y < cum y 12
 ·obtain ⟨m,a',b',c',e'⟩:=month_ex y (n - fst y) (by omega) 11 (by omega) h
  have hs:=cum_succ y m a' (by omega)
  rw [if_neg (by omega)] at hs
  exact ⟨y,m,n - fst y - cum y m+1,⟨a,by omega,a',by omega,by omega,by omega⟩,by unfold num; omega⟩
 ·have hs:=cum_succ y 12 (by omega) (by omega)
  rw [if_pos rfl] at hs
  exact ⟨y,12,n - fst y - cum y 12+1,⟨a,by omega,by omega,by omega,by omega,by omega⟩,by unfold num; omega⟩
theorem num_date {n:Int} (h0:-719162≤n) (h1:n≤2932896):Vld (yearP n) (monP n) (dayP n)∧num (yearP n) (monP n) (dayP n)=n:=by
 obtain ⟨y,m,d,hv,rfl⟩:=date_ex h0 h1
 obtain ⟨e1,e2,e3⟩:=date_num hv
 rw [e1,e2,e3]
 exact ⟨hv,rfl⟩
theorem doy_bd {n:Int} (h0:-719162≤n) (h1:n≤2932896):0≤doy n∧doy n≤365:=by
 obtain ⟨y,m,d,hv,rfl⟩:=date_ex h0 h1
 exact (date_num' hv).1
def wk (n:Int):Int:=(n+4) % 7
end Go.Proofs.YtbnpclndiichcaaGreatDoor.Pl
end
section
set_option linter.unusedVariables false
set_option linter.unusedSimpArgs false
namespace Go.Proofs.YtbnpclndiichcaaGreatDoor.Pl
open Go
def rightR (K A B C X:Int):Bool :=
 decide ((-604799≤X∧X≤604799)∧((K=0∧1≤A∧A≤12∧1≤B∧B≤5∧0≤C∧C≤6)∨(K=1∧1≤A∧A≤365∧B=0∧C=0)∨(K=2∧0≤A∧A≤365∧B=0∧C=0)))
theorem right_iff (K A B C X:Int):rightR K A B C X=true↔((-604799≤X∧X≤604799)∧((K=0∧1≤A∧A≤12∧1≤B∧B≤5∧0≤C∧C≤6)∨(K=1∧1≤A∧A≤365∧B=0∧C=0)∨(K=2∧0≤A∧A≤365∧B=0∧C=0))):=by
 unfold rightR; exact decide_eq_true_iff
def offW (A B C y:Int):Int:=let k:=(C - wk (num y A 1)+7) % 7+7 * (B - 1); if k≥dim y A then k - 7 else k
def ruleDay (K A B C y:Int):Int:=if K=2 then fst y+A else if K=1 then (if A≤59∨leapY y=false then fst y - 1+A else fst y+A) else num y A 1+offW A B C y
theorem num_first (y:Int):num y 1 1=fst y:=by unfold num cum cum0; simp
theorem dim_jan (y:Int):dim y 1=31:=rfl
theorem off_bd {A B C y:Int} (h1:1≤B) (h2:B≤5):0≤offW A B C y∧offW A B C y < dim y A∧offW A B C y % 7=(C - wk (num y A 1)+7) % 7:=by
 have hd:=dim_bd y A
 have hw:0≤wk (num y A 1)∧wk (num y A 1) < 7:=by unfold wk; omega
 unfold offW
 simp only []
 split <;> omega
theorem ruleDay_bd {K A B C X y:Int} (hy:1≤y∧y≤9999) (hr:rightR K A B C X=true):fst y≤ruleDay K A B C y∧ruleDay K A B C y≤fst y+365:=by
 have hr':=(right_iff K A B C X).1 hr
 unfold ruleDay
 split
 ·omega
 ·split
  ·split <;> omega
  ·have hK:K=0∧1≤A∧A≤12∧1≤B∧B≤5∧0≤C∧C≤6:=by omega
   obtain ⟨o1,o2,_⟩:=off_bd (A:=A) (C:=C) (y:=y) hK.2.2.2.1 hK.2.2.2.2.1
   have hv:Vld y A (offW A B C y+1):=⟨hy.1,hy.2,hK.2.1,hK.2.2.1,by omega,by omega⟩
   have:=num_bd hv
   rw [fst_succ] at this
   have e:num y A (offW A B C y+1)=num y A 1+offW A B C y:=by unfold num; omega
   rw [e] at this
   split at this <;> omega
def cutP (c:UInt8) (l:List UInt8):List UInt8×Bool:=if l.head? = some c then (l.tail,true) else (l,false)
theorem cut_drop (c:UInt8) (l:List UInt8):∃ j,j≤l.length∧(cutP c l).1=l.drop j:=by
 unfold cutP
 split
 ·cases l with
  | nil=>rename_i h; simp at h
  | cons a r=>exact ⟨1,by simp,rfl⟩
 ·exact ⟨0,by omega,rfl⟩
def numberL (l:List UInt8) (m:Nat):Int×List UInt8×Bool:=if dl l=0∨m < dl l then (0,l,false) else ((valL (l.take (dl l)):Int),l.drop (dl l),true)
theorem numberL_drop (l:List UInt8) (m:Nat):∃ j,j≤l.length∧(numberL l m).2.1=l.drop j∧((numberL l m).2.2=true→0 < j):=by
 unfold numberL
 split
 ·exact ⟨0,by omega,rfl,by simp⟩
 ·exact ⟨dl l,dl_le l,rfl,fun _=>by omega⟩
theorem numberL_bd (l:List UInt8) (m:Nat):0≤(numberL l m).1∧((numberL l m).1:Int) < ((10 ^ m:Nat):Int):=by
 unfold numberL
 have h1:0 < 10 ^ m:=Nat.pos_of_ne_zero (by simp)
 split
 ·simp only []; omega
 ·rename_i h
  have hv:=valL_lt _ (take_dl_dig l _ (Nat.le_refl _))
  have h2:10 ^ (l.take (dl l)).length≤10 ^ m:=Nat.pow_le_pow_right (by omega) (by rw [List.length_take]; omega)
  simp only []; omega
def weekL (l:List UInt8):Int×Int×Int×List UInt8×Bool :=
 ((numberL l 2).1,(numberL (cutP 46 (numberL l 2).2.1).1 1).1,(numberL (cutP 46 (numberL (cutP 46 (numberL l 2).2.1).1 1).2.1).1 1).1,
  (numberL (cutP 46 (numberL (cutP 46 (numberL l 2).2.1).1 1).2.1).1 1).2.1,
  (numberL l 2).2.2 && (numberL (cutP 46 (numberL l 2).2.1).1 1).2.2 && (numberL (cutP 46 (numberL (cutP 46 (numberL l 2).2.1).1 1).2.1).1 1).2.2 && (cutP 46 (numberL l 2).2.1).2 && (cutP 46 (numberL (cutP 46 (numberL l 2).2.1).1 1).2.1).2)
theorem weekL_drop (l:List UInt8):∃ j,j≤l.length∧(weekL l).2.2.2.1=l.drop j∧((weekL l).2.2.2.2=true→0 < j):=by
 unfold weekL
 obtain ⟨j1,h1,e1,p1⟩:=numberL_drop l 2
 obtain ⟨j2,h2,e2⟩:=cut_drop 46 (numberL l 2).2.1
 obtain ⟨j3,h3,e3,_⟩:=numberL_drop (cutP 46 (numberL l 2).2.1).1 1
 obtain ⟨j4,h4,e4⟩:=cut_drop 46 (numberL (cutP 46 (numberL l 2).2.1).1 1).2.1
 obtain ⟨j5,h5,e5,_⟩:=numberL_drop (cutP 46 (numberL (cutP 46 (numberL l 2).2.1).1 1).2.1).1 1
 refine ⟨j1+j2+j3+j4+j5,?_,?_,?_⟩
 ·rw [e4,List.length_drop,e3,List.length_drop,e2,List.length_drop,e1,List.length_drop] at h5
  rw [e3,List.length_drop,e2,List.length_drop,e1,List.length_drop] at h4
  rw [e2,List.length_drop,e1,List.length_drop] at h3
  rw [e1,List.length_drop] at h2
  omega
 ·simp only []
  rw [e5,e4,e3,e2,e1]
  simp only [List.drop_drop]
 ·intro h
  simp only [Bool.and_eq_true] at h
  have:=p1 h.1.1.1.1
  omega
def dateL (l:List UInt8):Int×Int×Int×Int×List UInt8×Bool :=
 if l.head? = some 77 then (0,weekL l.tail) else if l.head? = some 74 then (1,(numberL l.tail 3).1,0,0,(numberL l.tail 3).2) else (2,(numberL l 3).1,0,0,(numberL l 3).2)
theorem dateL_drop (l:List UInt8):∃ j,j≤l.length∧(dateL l).2.2.2.2.1=l.drop j∧((dateL l).2.2.2.2.2=true→0 < j):=by
 unfold dateL
 by_cases h:l.head? = some 77
 ·rw [if_pos h]
  obtain ⟨a,r,rfl⟩:∃ a r,l=a :: r:=by cases l with | nil=>simp at h | cons a r=>exact ⟨a,r,rfl⟩
  obtain ⟨j,hj,e,_⟩:=weekL_drop r
  exact ⟨j+1,by simp; omega,e,fun _=>by omega⟩
 ·rw [if_neg h]
  by_cases h':l.head? = some 74
  ·rw [if_pos h']
   obtain ⟨a,r,rfl⟩:∃ a r,l=a :: r:=by cases l with | nil=>simp at h' | cons a r=>exact ⟨a,r,rfl⟩
   obtain ⟨j,hj,e,_⟩:=numberL_drop r 3
   exact ⟨j+1,by simp; omega,e,fun _=>by omega⟩
  ·rw [if_neg h']
   exact numberL_drop l 3
def parseL (l:List UInt8):Int×Int×Int×Int×Int×List UInt8×Bool :=
 if (dateL l).2.2.2.2.2=true then
  (if (dateL l).2.2.2.2.1.head? = some 47 then
   (if (timeL (dateL l).2.2.2.2.1.tail).2.2=true∧rightR (dateL l).1 (dateL l).2.1 (dateL l).2.2.1 (dateL l).2.2.2.1 (timeL (dateL l).2.2.2.2.1.tail).1=true then
    ((dateL l).1,(dateL l).2.1,(dateL l).2.2.1,(dateL l).2.2.2.1,(timeL (dateL l).2.2.2.2.1.tail).1,(timeL (dateL l).2.2.2.2.1.tail).2.1,true) else (0,0,0,0,0,l,false))
  else if rightR (dateL l).1 (dateL l).2.1 (dateL l).2.2.1 (dateL l).2.2.2.1 7200=true then
   ((dateL l).1,(dateL l).2.1,(dateL l).2.2.1,(dateL l).2.2.2.1,7200,(dateL l).2.2.2.2.1,true) else (0,0,0,0,0,l,false))
 else (0,0,0,0,0,l,false)
theorem parse_good (l:List UInt8) (h:(parseL l).2.2.2.2.2.2=true) :
  rightR (parseL l).1 (parseL l).2.1 (parseL l).2.2.1 (parseL l).2.2.2.1 (parseL l).2.2.2.2.1=true∧∃ j,0 < j∧j≤l.length∧(parseL l).2.2.2.2.2.1=l.drop j:=by
 obtain ⟨j,hj,e,hp⟩:=dateL_drop l
 revert h
 unfold parseL
 by_cases hok:(dateL l).2.2.2.2.2=true
 ·have hp:=hp hok
  rw [if_pos hok]
  by_cases hc:(dateL l).2.2.2.2.1.head? = some 47
  ·rw [if_pos hc]
   by_cases hR:(timeL (dateL l).2.2.2.2.1.tail).2.2=true∧rightR (dateL l).1 (dateL l).2.1 (dateL l).2.2.1 (dateL l).2.2.2.1 (timeL (dateL l).2.2.2.2.1.tail).1=true
   ·rw [if_pos hR]
    intro _
    obtain ⟨i,hi,ei,_⟩:=time_drop (dateL l).2.2.2.2.1.tail
    refine ⟨hR.2,j+1+i,by omega,?_,?_⟩
    ·rw [List.length_tail,e,List.length_drop] at hi
     have:(dateL l).2.2.2.2.1.length≠0:=by intro h0; rw [List.eq_nil_of_length_eq_zero h0] at hc; simp at hc
     rw [e,List.length_drop] at this
     omega
    ·simp only []
     rw [ei,e,← List.drop_one,List.drop_drop,List.drop_drop]
     congr 1; omega
   ·rw [if_neg hR]; intro h; simp at h
  ·rw [if_neg hc]
   by_cases hR:rightR (dateL l).1 (dateL l).2.1 (dateL l).2.2.1 (dateL l).2.2.2.1 7200=true
   ·rw [if_pos hR]
    intro _
    exact ⟨hR,j,hp,hj,e⟩
   ·rw [if_neg hR]; intro h; simp at h
 ·rw [if_neg hok]; intro h; simp at h
theorem parse_bad (l:List UInt8) (h:(parseL l).2.2.2.2.2.2=false):parseL l=(0,0,0,0,0,l,false):=by
 revert h
 unfold parseL
 split
 ·split
  ·split
   ·intro h; simp at h
   ·intro _; rfl
  ·split
   ·intro h; simp at h
   ·intro _; rfl
 ·intro _; rfl
def headL (K A B C:Int):List UInt8:=if K=0 then 77 :: (itoaK A++46 :: (itoaK B++46 :: itoaK C)) else if K=1 then 74 :: itoaK A else itoaK A
def tailL (X:Int):List UInt8:=if X=7200 then [] else 47 :: (clockL X).1
def textL (K A B C X:Int):List UInt8×Bool:=if rightR K A B C X=true then (headL K A B C++tailL X,true) else ([],false)
theorem itoaK_len (n:Int):(itoaK n).length≤21:=by
 unfold itoaK
 split
 ·have:=digsN_len 20 n.natAbs; simp; omega
 ·have:=digsN_len 20 n.toNat; omega
end Go.Proofs.YtbnpclndiichcaaGreatDoor.Pl
end
section
set_option linter.unusedVariables false
set_option linter.unusedSimpArgs false
namespace Go.Proofs.YtbnpclndiichcaaGreatDoor.Pl
open Go
theorem sixty_no {c a b:UInt8} {r:List UInt8} (h:¬ (c=58∧isDig a=true∧isDig b=true∧a.toNat≤53)):sixtyL (c :: a :: b :: r)=(0,c :: a :: b :: r,false):=if_neg h
theorem sixty_yes {c a b:UInt8} {r:List UInt8} (h:c=58∧isDig a=true∧isDig b=true∧a.toNat≤53):sixtyL (c :: a :: b :: r)=(10 * ((a.toNat:Int) - 48)+((b.toNat:Int) - 48),r,true):=if_pos h
theorem isDig_iff (a:UInt8):isDig a=true↔48≤a.toNat∧a.toNat≤57:=by unfold isDig; simp
theorem valL_one (a:UInt8):valL [a]=a.toNat - 48:=by simp [valL]
theorem valL_two (a b:UInt8):valL [a,b]=10 * (a.toNat - 48)+(b.toNat - 48):=by simp [valL]
theorem valL_snoc (a:List UInt8) (c:UInt8):valL (a++[c])=10 * valL a+(c.toNat - 48):=by simp [valL,List.foldl_append]
theorem take_succ_at (l:List UInt8) (j:Nat) (h:j < l.length):l.take (j+1)=l.take j++[l[j]]:=(List.take_append_getElem h).symm
theorem dl_digit (l:List UInt8):∀ j (h:j < dl l),isDig (l[j]'(Nat.lt_of_lt_of_le h (dl_le l)))=true:=by
 intro j h
 have hl:=dl_le l
 have:=take_dl_dig l (j+1) (by omega)
 rw [take_succ_at l j (by omega)] at this
 exact this _ (List.mem_append_right _ (List.mem_singleton.2 rfl))
theorem dl_stop (l:List UInt8) (h:dl l < l.length):isDig l[dl l]=false:=by
 induction l with
 | nil=>simp at h
 | cons a r ih =>
  by_cases ha:isDig a=true
  ·have e:dl (a :: r)=dl r+1:=by rw [dl_cons,if_pos ha]
   have h':dl r < r.length:=by rw [e] at h; simpa using h
   have:=ih h'
   simp only [e,List.getElem_cons_succ]
   exact this
  ·have e:dl (a :: r)=0:=by rw [dl_cons,if_neg ha]
   simp only [e,List.getElem_cons_zero]
   simpa using ha
def refNum (l:List UInt8) (m hi:Nat):Int×List UInt8:=if dl l=0∨m < dl l∨hi < valL (l.take (dl l)) then (-1,l) else ((valL (l.take (dl l)):Int),l.drop (dl l))
theorem refNum_yes {l:List UInt8} {m hi:Nat} (h:0≤(refNum l m hi).1):numberL l m=((refNum l m hi).1,(refNum l m hi).2,true):=by
 unfold refNum at h ⊢
 unfold numberL
 by_cases c:dl l=0∨m < dl l∨hi < valL (l.take (dl l))
 ·rw [if_pos c] at h; simp at h
 ·rw [if_neg c,if_neg (by omega)]
theorem refNum_of {l:List UInt8} {m hi:Nat} (h:(numberL l m).2.2=true) (hv:(numberL l m).1≤(hi:Int)):refNum l m hi=((numberL l m).1,(numberL l m).2.1):=by
 unfold numberL at h hv ⊢
 unfold refNum
 by_cases c:dl l=0∨m < dl l
 ·rw [if_pos c] at h; cases h
 ·rw [if_neg c] at hv ⊢
  rw [if_neg (by simp only [] at hv; omega)]
def refDot (l:List UInt8):Int×List UInt8:=if l.head? = some 46 then refNum l.tail 1 9 else (-1,l)
def refHead (l:List UInt8):Int×Int×Int×Int×List UInt8 :=
 if l.head? = some 77 then (0,(refNum l.tail 2 12).1,(refDot (refNum l.tail 2 12).2).1,refDot (refDot (refNum l.tail 2 12).2).2)
 else if l.head? = some 74 then (1,(refNum l.tail 3 365).1,0,0,(refNum l.tail 3 365).2) else (2,(refNum l 3 365).1,0,0,(refNum l 3 365).2)
theorem dot_yes {l:List UInt8} (h:0≤(refDot l).1):cutP 46 l=(l.tail,true)∧numberL l.tail 1=((refDot l).1,(refDot l).2,true):=by
 unfold refDot at h ⊢
 unfold cutP
 by_cases c:l.head? = some 46
 ·rw [if_pos c] at h ⊢
  rw [if_pos c]
  exact ⟨rfl,refNum_yes h⟩
 ·rw [if_neg c] at h; simp at h
theorem dot_of {l:List UInt8} (h1:(cutP 46 l).2=true) (h2:(numberL (cutP 46 l).1 1).2.2=true):refDot l=((numberL (cutP 46 l).1 1).1,(numberL (cutP 46 l).1 1).2.1):=by
 unfold cutP at h1 h2 ⊢
 unfold refDot
 by_cases c:l.head? = some 46
 ·rw [if_pos c] at h2 ⊢
  rw [if_pos c]
  have hb:=numberL_bd l.tail 1
  exact refNum_of h2 (by have h3:=hb.2; rw [show ((10 ^ 1:Nat):Int)=10 from rfl] at h3; omega)
 ·rw [if_neg c] at h1; cases h1
theorem head_yes (l:List UInt8) (h:rightR (refHead l).1 (refHead l).2.1 (refHead l).2.2.1 (refHead l).2.2.2.1 7200=true) :
  dateL l=((refHead l).1,(refHead l).2.1,(refHead l).2.2.1,(refHead l).2.2.2.1,(refHead l).2.2.2.2,true):=by
 have hr:=(right_iff _ _ _ _ _).1 h
 revert hr
 unfold refHead dateL
 by_cases h77:l.head? = some 77
 ·rw [if_pos h77,if_pos h77]
  simp only []
  intro hr
  have y1:=refNum_yes (l:=l.tail) (m:=2) (hi:=12) (by omega)
  have y2:=dot_yes (l:=(refNum l.tail 2 12).2) (by omega)
  have y3:=dot_yes (l:=(refDot (refNum l.tail 2 12).2).2) (by omega)
  unfold weekL
  rw [y1]
  simp only []
  rw [y2.1]
  simp only []
  rw [y2.2]
  simp only []
  rw [y3.1]
  simp only []
  rw [y3.2]
  rfl
 ·rw [if_neg h77,if_neg h77]
  by_cases h74:l.head? = some 74
  ·rw [if_pos h74,if_pos h74]
   simp only []
   intro hr
   rw [refNum_yes (l:=l.tail) (m:=3) (hi:=365) (by omega)]
  ·rw [if_neg h74,if_neg h74]
   simp only []
   intro hr
   rw [refNum_yes (l:=l) (m:=3) (hi:=365) (by omega)]
theorem head_of (l:List UInt8) (ho:(dateL l).2.2.2.2.2=true) (h:rightR (dateL l).1 (dateL l).2.1 (dateL l).2.2.1 (dateL l).2.2.2.1 7200=true) :
  refHead l=((dateL l).1,(dateL l).2.1,(dateL l).2.2.1,(dateL l).2.2.2.1,(dateL l).2.2.2.2.1):=by
 have hr:=(right_iff _ _ _ _ _).1 h
 revert hr ho
 unfold refHead dateL
 by_cases h77:l.head? = some 77
 ·rw [if_pos h77,if_pos h77]
  simp only []
  unfold weekL
  simp only [Bool.and_eq_true]
  intro ho hr
  have z1:=refNum_of (l:=l.tail) (m:=2) (hi:=12) ho.1.1.1.1 (by omega)
  rw [z1]
  simp only []
  have z2:=dot_of ho.1.2 ho.1.1.1.2
  rw [z2]
  simp only []
  have z3:=dot_of ho.2 ho.1.1.2
  rw [z3]
 ·rw [if_neg h77,if_neg h77]
  by_cases h74:l.head? = some 74
  ·rw [if_pos h74,if_pos h74]
   simp only []
   intro ho hr
   rw [refNum_of (l:=l.tail) (m:=3) (hi:=365) ho (by omega)]
  ·rw [if_neg h74,if_neg h74]
   simp only []
   intro ho hr
   rw [refNum_of (l:=l) (m:=3) (hi:=365) ho (by omega)]
theorem right_sec (K A B C X Y:Int) (hX:-604799≤X∧X≤604799) (hY:-604799≤Y∧Y≤604799):rightR K A B C X=rightR K A B C Y:=by
 rw [Bool.eq_iff_iff,right_iff,right_iff]
 constructor
 ·intro h; exact ⟨hY,h.2⟩
 ·intro h; exact ⟨hX,h.2⟩
theorem cum_one (y:Int):cum y 1=0:=by unfold cum cum0; simp
def hits (r t:Int):Int:=(t+6 - r) / 7
def manyW (r B t:Int):Int:=if hits r t≤B then hits r t else B
def atW (n r B t:Int):Int:=if manyW r B t=0 then -1 else n+r+7 * (manyW r B t - 1)
end Go.Proofs.YtbnpclndiichcaaGreatDoor.Pl
end
section
set_option linter.unusedVariables false
set_option linter.unusedSimpArgs false
namespace Go.Proofs.YtbnpclndiichcaaGreatDoor.Pl
open Go Go.Proofs.YtbnpclndiichcaaGreatDoor.Eng
theorem ifT {c:Prop} [Decidable c] {a b:Prop} (h:c) (ha:a):if c then a else b:=by rw [if_pos h]; exact ha
theorem ifF {c:Prop} [Decidable c] {a b:Prop} (h:¬ c) (hb:b):if c then a else b:=by rw [if_neg h]; exact hb
theorem ifC {c:Prop} [Decidable c] {a b:Prop} (h1:c→a) (h2:¬ c→b):if c then a else b:=by
 by_cases h:c
 ·exact ifT h (h1 h)
 ·exact ifF h (h2 h)
theorem w64_in {n:Int} (h0:-9223372036854775808≤n) (h1:n≤9223372036854775807):w64 n=n:=by
 simp only [w64,IntKind.wrap,IntKind.bits,IntKind.signed]
 try simp
 try omega
theorem bAt_S (l:List UInt8) (i:Nat):Eng.bAt (S l) i=((l.getD i 0).toNat:Int):=rfl
theorem bAt0 (c:UInt8) (l:List UInt8):Eng.bAt (S (c :: l)) 0=(c.toNat:Int):=rfl
theorem bAt1 (a c:UInt8) (l:List UInt8):Eng.bAt (S (a :: c :: l)) 1=(c.toNat:Int):=rfl
theorem bAt2 (a b c:UInt8) (l:List UInt8):Eng.bAt (S (a :: b :: c :: l)) 2=(c.toNat:Int):=rfl
theorem lp_ind {α:Type} {F:(α→Prop)→α→Prop} (μ:α→Nat) (I:α→Prop) (h:∀ x,I x→∀ k:α→Prop,(∀ y,I y→μ y < μ x→k y)→F k x) {x:α} (hx:I x):Eng.lp F x:=by
 have key:∀ n x,I x→μ x < n→itrT F n x:=by
  intro n
  induction n with
  | zero=>intro x _ hn; omega
  | succ n ih=>intro x hx hn; exact h x hx _ fun y hy hlt=>ih y hy (by omega)
 exact ⟨μ x+1,key _ _ hx (Nat.lt_succ_self _)⟩
theorem lp_nat {α:Type} {F:(α→Prop)→α→Prop} (st:Nat→α) (N:Nat) (h:∀ n,n≤N→∀ k:α→Prop,(n < N→k (st (n+1)))→F k (st n)):Eng.lp F (st 0):=by
 have key:∀ d n,n+d=N→itrT F (d+1) (st n):=by
  intro d
  induction d with
  | zero=>intro n hn; exact h n (by omega) _ fun hlt=>by omega
  | succ d ih=>intro n hn; exact h n (by omega) _ fun hlt=>ih (n+1) (by omega)
 exact ⟨N+1,key N 0 (by omega)⟩
theorem lp_at {α:Type} {F:(α→Prop)→α→Prop} {x:α} (st:Nat→α) (N:Nat) (h0:x=st 0) (h:∀ n,n≤N→∀ k:α→Prop,(n < N→k (st (n+1)))→F k (st n)):Eng.lp F x:=by
 rw [h0]; exact lp_nat st N h
def nl (q:UInt8→Bool) (l:List UInt8):Nat:=(l.takeWhile fun c=>!q c).length
theorem nl_le (q:UInt8→Bool) (l:List UInt8):nl q l≤l.length:=by unfold nl; exact (List.takeWhile_sublist _).length_le
theorem nl_cons (q:UInt8→Bool) (c:UInt8) (l:List UInt8):nl q (c :: l)=if q c=true then 0 else nl q l+1:=by
 unfold nl; rw [List.takeWhile_cons]; cases q c <;> simp
theorem nl_any (q:UInt8→Bool) (l:List UInt8):l.any q=decide (nl q l < l.length):=by
 induction l with
 | nil=>rfl
 | cons c l ih =>
  rw [List.any_cons,nl_cons,ih]
  cases q c <;> simp
theorem nl_of (q:UInt8→Bool):∀ (l:List UInt8) (k:Nat),k≤l.length→(∀ c∈l.take k,q c=false)→(∀ h:k < l.length,q l[k]=true)→nl q l=k
 | [],k,hk,_,_=>by simp at hk; subst hk; rfl
 | c :: l,0,_,_,h=>by
  have h0:q c=true:=h (by simp)
  rw [nl_cons,if_pos h0]
 | c :: l,k+1,hk,h1,h2=>by
  have hc:=h1 c (by simp)
  rw [nl_cons,if_neg (by rw [hc]; simp),nl_of q l k (by simpa using hk) (fun d hd=>h1 d (by rw [List.take_succ_cons]; exact .tail _ hd)) (fun h=>by have:=h2 (by simpa using h); simpa using this)]
theorem nl_spec (q:UInt8→Bool):∀ (l:List UInt8) (j:Nat) (h:j < l.length),(j < nl q l→q l[j]=false)∧(j=nl q l→q l[j]=true)
 | [],j,h=>by simp at h
 | c :: l,0,_=>by
  rw [nl_cons]
  cases hq:q c
  ·exact ⟨fun _=>hq,fun h=>by simp at h⟩
  ·exact ⟨fun h=>by simp at h,fun _=>hq⟩
 | c :: l,j+1,h=>by
  have ih:=nl_spec q l j (by simpa using h)
  rw [nl_cons]
  cases hq:q c
  ·simp only [Bool.false_eq_true,if_false,List.getElem_cons_succ]
   exact ⟨fun h=>ih.1 (by omega),fun h=>ih.2 (by omega)⟩
  ·exact ⟨fun h=>by simp at h,fun h=>by simp at h⟩
theorem indexByte_nl (l:List UInt8) (c:UInt8):Lib.indexByte l c=if nl (· == c) l < l.length then (nl (· == c) l:Int) else -1:=by
 induction l with
 | nil=>rfl
 | cons b l ih =>
  rw [Lib.indexByte,nl_cons,ih]
  cases hb:(b == c)
  ·simp only [Bool.false_eq_true,if_false,List.length_cons]
   by_cases h:nl (· == c) l < l.length
   ·rw [if_pos h,if_neg (by simp),if_pos (by omega)]; omega
   ·rw [if_neg h,if_pos (by simp),if_neg (by omega)]
  ·simp
theorem decode_lo (l:List UInt8) (pos:Nat) (h:pos < l.length) (ha:l[pos].toNat < 128):Utf8.decode (S l) pos=(l[pos].toNat,1):=decode_ascii (S l) pos (by rw [S_size]; exact h) ha
theorem decode_hi (l:List UInt8) (pos:Nat) (h:pos < l.length) (ha:128≤l[pos].toNat):128≤(Utf8.decode (S l) pos).1∧1≤(Utf8.decode (S l) pos).2:=decode_high (S l) pos (by rw [S_size]; exact h) ha
end Go.Proofs.YtbnpclndiichcaaGreatDoor.Pl
end
section
set_option linter.unusedVariables false
set_option linter.unusedSimpArgs false
namespace Go.Proofs.YtbnpclndiichcaaGreatDoor.Pl
open Go
def splitL (c:UInt8) (l:List UInt8):List UInt8×List UInt8×Bool:=if nl (· == c) l < l.length then (l.take (nl (· == c) l),l.drop (nl (· == c) l+1),true) else (l,[],false)
def badC (c:UInt8):Bool:=!((97≤c.toNat && c.toNat≤122) || (65≤c.toNat && c.toNat≤90) || (48≤c.toNat && c.toNat≤57) || c.toNat == 43 || c.toNat == 45)
def letC (c:UInt8):Bool:=(97≤c.toNat && c.toNat≤122) || (65≤c.toNat && c.toNat≤90)
def abbrL (l:List UInt8):Bool:=decide (3≤l.length∧l.length≤16) && !l.any badC
theorem sixty_bad (l:List UInt8) (h:(sixtyL l).2.2=false):(sixtyL l).1=0∧(sixtyL l).2.1=l:=by
 match l,h with
 | [],_=>exact ⟨rfl,rfl⟩
 | [_],_=>exact ⟨rfl,rfl⟩
 | [_,_],_=>exact ⟨rfl,rfl⟩
 | c :: a :: b :: r,h =>
  by_cases hh:c=58∧isDig a=true∧isDig b=true∧a.toNat≤53
  ·rw [sixty_yes hh] at h; cases h
  ·rw [sixty_no hh]; exact ⟨rfl,rfl⟩
structure Ru where
 k:Int
 a:Int
 b:Int
 c:Int
 x:Int
def Ru.z:Ru:=⟨0,0,0,0,0⟩
def Ru.ok (r:Ru):Bool:=rightR r.k r.a r.b r.c r.x
def Ru.txt (r:Ru):List UInt8:=(textL r.k r.a r.b r.c r.x).1
def Ru.at (r:Ru) (y:Int):Int:=ruleDay r.k r.a r.b r.c y * 86400+r.x
structure Ft where
 so:Int
 sd:Bool
 sa:List UInt8
 wo:Int
 wd:Bool
 wa:List UInt8
 has:Bool
 fr:Ru
 to:Ru
def Ft.z:Ft:=⟨0,false,[],0,false,[],false,.z,.z⟩
def kindR (o:Int) (d:Bool) (l:List UInt8) (w:Bool):Bool:=abbrL l && (d == w) && decide (-89999≤o∧o≤89999)
def Ft.bare (f:Ft):Prop:=f.wo=0∧f.wd=false∧f.wa=[]∧(f.fr.k=0∧f.fr.a=0∧f.fr.b=0∧f.fr.c=0∧f.fr.x=0)∧(f.to.k=0∧f.to.a=0∧f.to.b=0∧f.to.c=0∧f.to.x=0)
instance (f:Ft):Decidable f.bare:=inferInstanceAs (Decidable (_∧_))
def Ft.ok (f:Ft):Bool:=kindR f.so f.sd f.sa false && (if f.has=true then kindR f.wo f.wd f.wa true && f.fr.ok && f.to.ok else decide f.bare)
def nameT (l:List UInt8):List UInt8:=if l.any (fun c=>!letC c)=true then 60 :: (l++[62]) else l
def Ft.txt (f:Ft):List UInt8:=nameT f.sa++((clockL (-f.so)).1++(if f.has=true then nameT f.wa++((if f.wo - f.so≠3600 then (clockL (-f.wo)).1 else [])++44 :: (f.fr.txt++44 :: f.to.txt)) else []))
def Ft.text (f:Ft):List UInt8×Bool:=if f.ok=true then (f.txt,true) else ([],false)
def nameP (l:List UInt8):List UInt8×Bool×List UInt8 :=
 if l.head? = some 60 then ((splitL 62 l.tail).1,(splitL 62 l.tail).2.2 && abbrL (splitL 62 l.tail).1,(splitL 62 l.tail).2.1)
 else (l.take (nl (fun c=>!letC c) l),abbrL (l.take (nl (fun c=>!letC c) l)),l.drop (nl (fun c=>!letC c) l))
structure Us where
 ok:Bool
 rest:List UInt8
 o:Int
 a:List UInt8
def usualP (l:List UInt8):Us:=⟨(nameP l).2.1 && (timeL (nameP l).2.2).2.2,(timeL (nameP l).2.2).2.1,-(timeL (nameP l).2.2).1,(nameP l).1⟩
def summerP (so:Int) (l:List UInt8):Us :=
 if (timeL (nameP l).2.2).2.2=true then ⟨(nameP l).2.1,(timeL (nameP l).2.2).2.1,-(timeL (nameP l).2.2).1,(nameP l).1⟩ else ⟨(nameP l).2.1,(nameP l).2.2,so+3600,(nameP l).1⟩
structure Rp where
 ok:Bool
 rest:List UInt8
 r:Ru
def ruleP (l:List UInt8):Rp:=⟨(parseL (cutP 44 l).1).2.2.2.2.2.2 && (cutP 44 l).2,(parseL (cutP 44 l).1).2.2.2.2.2.1,⟨(parseL (cutP 44 l).1).1,(parseL (cutP 44 l).1).2.1,(parseL (cutP 44 l).1).2.2.1,(parseL (cutP 44 l).1).2.2.2.1,(parseL (cutP 44 l).1).2.2.2.2.1⟩⟩
def Ft.chk (f:Ft):Ft×Bool:=if f.ok=true then (f,true) else (.z,false)
def Ft.parse (l:List UInt8):Ft×Bool :=
 if (usualP l).ok=true then
  (if (usualP l).rest=[] then Ft.chk ⟨(usualP l).o,false,(usualP l).a,0,false,[],false,.z,.z⟩
  else if (summerP (usualP l).o (usualP l).rest).ok=true then
   (if (ruleP (summerP (usualP l).o (usualP l).rest).rest).ok=true then
    (if (ruleP (ruleP (summerP (usualP l).o (usualP l).rest).rest).rest).ok=true then
     (if (ruleP (ruleP (summerP (usualP l).o (usualP l).rest).rest).rest).rest=[] then
      Ft.chk ⟨(usualP l).o,false,(usualP l).a,(summerP (usualP l).o (usualP l).rest).o,true,(summerP (usualP l).o (usualP l).rest).a,true,(ruleP (summerP (usualP l).o (usualP l).rest).rest).r,(ruleP (ruleP (summerP (usualP l).o (usualP l).rest).rest).rest).r⟩
     else (.z,false)) else (.z,false)) else (.z,false)) else (.z,false))
 else (.z,false)
def Ft.spans (f:Ft) (y:Int):Prop:=f.has=true∧f.ok=true∧1≤y∧y≤9999
instance (f:Ft) (y:Int):Decidable (f.spans y):=inferInstanceAs (Decidable (_∧_))
def Ft.from' (f:Ft) (y:Int):Int:=f.fr.at y - f.so
def Ft.to' (f:Ft) (y:Int):Int:=f.to.at y - f.wo
def inDays (n:Int):Prop:=-719162≤n / 86400∧n / 86400≤2932896
instance (n:Int):Decidable (inDays n):=inferInstanceAs (Decidable (_∧_))
def Ft.sum (f:Ft) (p:Int):Prop:=inDays (p+f.so)∧f.spans (yearP ((p+f.so) / 86400)) ∧
 ((f.from' (yearP ((p+f.so) / 86400))≤p∧p < f.to' (yearP ((p+f.so) / 86400)))∨(f.to' (yearP ((p+f.so) / 86400))≤f.from' (yearP ((p+f.so) / 86400))∧(f.from' (yearP ((p+f.so) / 86400))≤p∨p < f.to' (yearP ((p+f.so) / 86400)))))
instance (f:Ft) (p:Int):Decidable (f.sum p):=inferInstanceAs (Decidable (_∧_))
end Go.Proofs.YtbnpclndiichcaaGreatDoor.Pl
end
section
set_option linter.unusedVariables false
set_option linter.unusedSimpArgs false
namespace Go.Proofs.YtbnpclndiichcaaGreatDoor.Pl
open Go
theorem kind_all {o:Int} {d:Bool} {l:List UInt8} {w:Bool}:kindR o d l w=true↔abbrL l=true∧d=w∧-89999≤o∧o≤89999:=by
 unfold kindR; simp [and_assoc]
theorem parse_ok (l:List UInt8):(Ft.parse l).2=true→(Ft.parse l).1.ok=true:=by
 have hc:∀ f:Ft,f.chk.2=true→f.chk.1.ok=true:=fun f h=>by
  unfold Ft.chk at *
  split at h
  ·rename_i e; rw [if_pos e]; exact e
  ·cases h
 unfold Ft.parse
 repeat' split
 all_goals first | exact hc _ | (intro h; cases h)
theorem parse_no (l:List UInt8):(Ft.parse l).2=false→(Ft.parse l).1 = .z:=by
 have hc:∀ f:Ft,f.chk.2=false→f.chk.1 = .z:=fun f h=>by
  unfold Ft.chk at *
  split at h
  ·cases h
  ·rename_i e; rw [if_neg e]
 unfold Ft.parse
 repeat' split
 all_goals first | exact hc _ | (intro h; rfl)
end Go.Proofs.YtbnpclndiichcaaGreatDoor.Pl
end
section
set_option linter.unusedVariables false
set_option linter.unusedSimpArgs false
namespace Go.Proofs.YtbnpclndiichcaaGreatDoor.Pl
open Go Go.Proofs.YtbnpclndiichcaaGreatDoor.Eng
def fl {α:Type} (q:α→Bool):List α→Nat
 | []=>0
 | x :: l=>if q x=true then 0 else fl q l+1
theorem fl_le {α:Type} (q:α→Bool):∀ l:List α,fl q l≤l.length
 | []=>Nat.le_refl _
 | x :: l=>by
  rw [fl]
  split
  ·omega
  ·have:=fl_le q l; simp; omega
theorem fl_spec {α:Type} (q:α→Bool):∀ (l:List α) (j:Nat) (h:j < l.length),(j < fl q l→q l[j]=false)∧(j=fl q l→q l[j]=true)
 | [],j,h=>by simp at h
 | x :: l,0,_=>by
  rw [fl]
  cases hq:q x
  ·exact ⟨fun _=>hq,fun h=>by simp at h⟩
  ·exact ⟨fun h=>by simp at h,fun _=>hq⟩
 | x :: l,j+1,h=>by
  have ih:=fl_spec q l j (by simpa using h)
  rw [fl]
  cases hq:q x
  ·simp only [Bool.false_eq_true,if_false,List.getElem_cons_succ]
   exact ⟨fun h=>ih.1 (by omega),fun h=>ih.2 (by omega)⟩
  ·exact ⟨fun h=>by simp at h,fun h=>by simp at h⟩
theorem fl_of {α:Type} (q:α→Bool) (l:List α) (k:Nat) (hk:k≤l.length) (h1:∀ i (h:i < l.length),i < k→q l[i]=false) (h2:∀ h:k < l.length,q l[k]=true):fl q l=k:=by
 have hle:=fl_le q l
 rcases Nat.lt_trichotomy (fl q l) k with h | h | h
 ·have h3:fl q l < l.length:=by omega
  have:=h1 _ h3 h
  rw [(fl_spec q l _ h3).2 rfl] at this
  cases this
 ·exact h
 ·have h3:k < l.length:=by omega
  have:=(fl_spec q l k h3).1 h
  rw [h2 h3] at this
  cases this
abbrev Rec:=Int×Int
def lastExp (l:List Rec):Bool:=(decide (l.length=1) && (l.getD 0 (0,0)).2 == 0) || (decide (1 < l.length) && (l.getD (l.length - 1) (0,0)).2 == (l.getD (l.length - 2) (0,0)).2)
def leapsR (l:List Rec):List Rec:=if lastExp l=true then l.take (l.length - 1) else l
def sumR (l:List Rec) (at':Int):Int:=match ((leapsR l).take (fl (fun c:Rec=>decide (c.1 > at')) (leapsR l))).getLast? with
 | none=>0
 | some c=>c.2
def stepR (l:List Rec) (at':Int):Int:=sumR l at' - sumR l (at' - 1)
def recOk:Nat→Rec→List Rec→Bool
 | _,_,[]=>true
 | k,b,c :: r =>
  let e:=decide (c.2 - b.2=0) && r.isEmpty
  decide (k≤200) && decide (0≤c.1) && (e || decide (c.2 - b.2=1) || decide (c.2 - b.2=-1)) && (decide (k=0) || decide (c.1 - b.1≥if e=true then 0 else 2419199)) && recOk (k+1) c r
def recRight (l:List Rec):Bool:=recOk 0 (-2419199,0) l
abbrev Ty:=Int×Bool×List UInt8
structure Zn where
 ty:List Ty
 tr:List Rec
 lp:List Rec
 ft:List UInt8
 v:Int
def eTy (t:Ty):V:=.agg [.c (.int .i64 t.1),.c (.bool t.2.1),.c (.string (S t.2.2))]
def eRec (c:Rec):V:=.agg [.c (.int .i64 c.1),.c (.int .i64 c.2)]
def tupZ (z:Zn):List V×List V×List V×ByteArray×Int×Unit:=(z.ty.map eTy,z.tr.map eRec,z.lp.map eRec,S z.ft,z.v,())
def poolN:List (List UInt8)→List (List UInt8)→Nat
 | _,[]=>0
 | had,s :: r=>if had.contains s=true then poolN had r else s.length+1+poolN (s :: had) r
def nin (n a b:Int):Bool:=decide (a≤n∧n≤b)
def countOk (z:Zn):Bool:=(z.ty.map (·.2.2)).all abbrL && decide (poolN [] (z.ty.map (·.2.2))≤256) && nin z.lp.length 0 201 && nin z.tr.length 0 2000 && nin z.ty.length 1 64 && nin (poolN [] (z.ty.map (·.2.2))) 1 256 && nin z.v 1 4
def oddR (x:Int):Bool:=decide (x < 0) || decide (x > 86400)
def endsOk (z:Zn):Bool:=z.ft.isEmpty || ((Ft.parse z.ft).2 && decide (z.v≥if (oddR (Ft.parse z.ft).1.fr.x || oddR (Ft.parse z.ft).1.to.x)=true then 3 else 2))
def trOk (n:Nat):Option Int→List Rec→Bool
 | _,[]=>true
 | b,c :: r=>decide (0≤c.2∧c.2 < n) && (match b with | none=>true | some a=>decide (c.1 > a)) && trOk n (some c.1) r
def zoneRight (z:Zn):Bool:=countOk z && recRight z.lp && (!lastExp z.lp || decide (z.v≥4)) && z.ty.all (fun t=>decide (-89999≤t.1∧t.1≤93599)) && trOk z.ty.length none z.tr && endsOk z
def indexN (z:Zn) (at':Int):Nat:=fl (fun c:Rec=>decide (c.1 > at')) z.tr
def posixR (z:Zn) (at':Int):Int:=w64 (at' - sumR z.lp at')
def Ft.look (f:Ft) (p:Int):Ty:=if f.sum p then (f.wo,f.wd,f.wa) else (f.so,f.sd,f.sa)
def lookZ (z:Zn) (at':Int):Ty :=
 if z.ft≠[]∧indexN z at'=z.tr.length then (Ft.parse z.ft).1.look (posixR z at')
 else match (z.tr.take (indexN z at')).getLast? with
  | none=>z.ty.headD (0,false,[])
  | some c=>z.ty.getD c.2.toNat (0,false,[])
end Go.Proofs.YtbnpclndiichcaaGreatDoor.Pl
end
section
set_option linter.unusedVariables false
set_option linter.unusedSimpArgs false
namespace Go.Proofs.YtbnpclndiichcaaGreatDoor.Pl
open Go Go.Proofs.YtbnpclndiichcaaGreatDoor.Eng
abbrev W32:=BitVec 32
theorem wu8_in {n:Int} (h0:0≤n) (h1:n≤255):wu8 n=n:=by
 simp only [wu8,IntKind.wrap,IntKind.bits,IntKind.signed]
 try simp
 try omega
def rotl (x:W32) (k:Nat):W32:=x <<< k ||| x >>> (32 - k)
def sched:Nat→List W32→List W32
 | 0,l=>l
 | n+1,l=>sched n (l++[rotl (l.getD (l.length - 3) 0 ^^^ l.getD (l.length - 8) 0 ^^^ l.getD (l.length - 14) 0 ^^^ l.getD (l.length - 16) 0) 1])
def next (l:List W32):List W32:=l++[rotl (l.getD (l.length - 3) 0 ^^^ l.getD (l.length - 8) 0 ^^^ l.getD (l.length - 14) 0 ^^^ l.getD (l.length - 16) 0) 1]
def word (b:List UInt8) (i:Nat):W32:=b.foldl (fun w c=>w <<< 8 ||| BitVec.ofNat 32 c.toNat) 0
def wordAt (b:List UInt8) (i:Nat):W32:=word ((b.drop (4 * i)).take 4) 0
def first (b:List UInt8) (n:Nat):List W32:=(List.range n).map (wordAt b)
structure St5 where
 a:W32
 b:W32
 c:W32
 d:W32
 e:W32
def s0:St5:=⟨1732584193#32,4023233417#32,2562383102#32,271733878#32,3285377520#32⟩
def St5.at (s:St5) (i:Nat):W32:=match i with | 0=>s.a | 1=>s.b | 2=>s.c | 3=>s.d | _=>s.e
end Go.Proofs.YtbnpclndiichcaaGreatDoor.Pl
end
section
set_option linter.unusedVariables false
set_option linter.unusedSimpArgs false
namespace Go.Proofs.YtbnpclndiichcaaGreatDoor.Pl
open Go Go.Proofs.YtbnpclndiichcaaGreatDoor.Eng
def blankB (c:UInt8):Bool:=c == 32 || c == 9
def wd:List UInt8→List UInt8→List (List UInt8)
 | cur,[]=>if cur=[] then [] else [cur]
 | cur,c :: r=>if blankB c=true then (if cur=[] then wd [] r else cur :: wd [] r) else wd (cur++[c]) r
def numL (l:List UInt8):Int×Bool:=if l≠[]∧l.all isDig=true∧valL l≤9223372036854775807 then ((valL l:Int),true) else (0,false)
def two (l:List UInt8):Bool:=(numL l).2 && decide (l.length≤2)
abbrev LR:=Int×Int×Bool
structure Tb where
 ls:List LR
 has:Bool
 ex:Int
deriving DecidableEq
def eLR (l:LR):V:=.agg [.c (.int .i64 l.1),.c (.int .i64 l.2.1),.c (.bool l.2.2)]
def endD (n:Int):Bool:=decide (-719162≤n∧n≤2932896) && (dayP n == dim (yearP n) (monP n))
def wrongL (k:Nat) (l:LR) (ahead:Int):Int :=
 if 200≤k then 8 else if l.1 < 730∨2932896≤l.1 then 9 else if endD l.1=false then 5 else if l.2.1≠1∧l.2.1≠-1 then 6 else if l.1≤ahead then 4 else 0
def checkG:Nat→Int→List LR→Nat×Int×Int
 | k,ahead,[]=>(k,0,ahead)
 | k,ahead,l :: r=>if wrongL k l ahead≠0 then (k,wrongL k l ahead,ahead) else checkG (k+1) l.1 r
def expB (has:Bool) (ex ahead:Int):Int :=
 if has=true then (if ex < (if 63072000 > (ahead+1) * 86400 then 63072000 else (ahead+1) * 86400)∨253402300799 < ex then 9 else 0) else if ex≠0 then 9 else 0
def checkT (t:Tb):Nat×Int:=if (checkG 0 729 t.ls).2.1≠0 then ((checkG 0 729 t.ls).1,(checkG 0 729 t.ls).2.1) else (t.ls.length,expB t.has t.ex (checkG 0 729 t.ls).2.2)
def rightT (t:Tb):Bool:=(checkT t).2 == 0
structure Row where
 kind:Int
 y:Int
 m:Int
 d:Int
 sec:Int
 sign:List UInt8
 roll:Bool
structure Src where
 ls:List LR
 at':Int
 til:Int
def tb0:Tb:=⟨[],false,0⟩
theorem kS_nil (l:List UInt8):(ByteArray.toList (S l) == ByteArray.toList (ByteArray.mk #[]))=l.isEmpty:=by
 rw [S_toList,show ByteArray.toList (ByteArray.mk #[])=[] from S_toList []]
 cases l <;> rfl
def B8 (l:List UInt8):List V:=l.map fun b=>.c (.int .u8 b.toNat)
theorem B8_len (l:List UInt8):(B8 l).length=l.length:=by simp [B8]
theorem bytesV_S (l:List UInt8):Eng.bytesV (S l)=B8 l:=by simp [Eng.bytesV,B8]
theorem asB8 {l:List UInt8} {i:Nat} (h:i < l.length) {F:Prop} {K:Int→Prop} (hk:K (l[i].toNat:Int)):Eng.asInt .u8 (getC (B8 l) i 0) F K:=by
 have:getC (B8 l) i 0=some (.c (.int .u8 (l[i].toNat:Int))):=by simp [getC,B8,V.cells,h]
 rw [this]; simpa [Eng.asInt] using hk
theorem B8_all (l:List UInt8):Eng.allU8 (B8 l)=true:=by
 simp [Eng.allU8,B8,Eng.isU8]
theorem B8_pack (l:List UInt8):Eng.packB (B8 l)=S l:=by
 have:(l.map fun b=>V.c (.int .u8 (b.toNat:Int))).map Eng.byteOf=l:=by
  rw [List.map_map]
  conv=>rhs; rw [← List.map_id l]
  refine List.map_congr_left fun b _=>?_
  simp [Eng.byteOf]
 unfold Eng.packB B8
 rw [this]
theorem kS_eq (l m:List UInt8):(ByteArray.toList (S l) == ByteArray.toList (S m))=(l == m):=by rw [S_toList,S_toList]
theorem getD_in {α:Type} (l:List α) (i:Nat) (d:α) (h:i < l.length):l.getD i d=l[i]:=by simp [List.getD,h]
theorem dneg {p:Prop} [Decidable p] (h:¬ p):¬ (decide p=true):=by simpa using h
def TLV (l:List LR):List V:=l.map eLR
theorem TLV_len (l:List LR):(TLV l).length=l.length:=by simp [TLV]
theorem asL1 {l:List LR} {i:Nat} (h:i < l.length) {F:Prop} {K:Int→Prop} (hk:K (l[i]).1):Eng.asInt .i64 (getC (TLV l) i 0) F K:=by
 have:getC (TLV l) i 0=some (.c (.int .i64 (l[i]).1)):=by simp [getC,TLV,eLR,V.cells,h]
 rw [this]; simpa [Eng.asInt] using hk
theorem asL2 {l:List LR} {i:Nat} (h:i < l.length) {F:Prop} {K:Int→Prop} (hk:K (l[i]).2.1):Eng.asInt .i64 (getC (TLV l) i 1) F K:=by
 have:getC (TLV l) i 1=some (.c (.int .i64 (l[i]).2.1)):=by simp [getC,TLV,eLR,V.cells,h]
 rw [this]; simpa [Eng.asInt] using hk
theorem asL3 {l:List LR} {i:Nat} (h:i < l.length) {F:Prop} {K:Bool→Prop} (hk:K (l[i]).2.2):Eng.asBool (getC (TLV l) i 2) F K:=by
 have:getC (TLV l) i 2=some (.c (.bool (l[i]).2.2)):=by simp [getC,TLV,eLR,V.cells,h]
 rw [this]; simpa [Eng.asBool] using hk
theorem wrongL_0 {k:Nat} {l:LR} {a:Int} (h:wrongL k l a=0):k < 200∧730≤l.1∧l.1 < 2932896∧endD l.1=true∧(l.2.1=1∨l.2.1=-1)∧a < l.1:=by
 unfold wrongL at h
 split at h; · omega
 split at h; · omega
 split at h; · omega
 split at h; · omega
 split at h; · omega
 rename_i h1 h2 h3 h4 h5
 refine ⟨by omega,by omega,by omega,by simpa using h3,by omega,by omega⟩
end Go.Proofs.YtbnpclndiichcaaGreatDoor.Pl
end
section
set_option linter.unusedVariables false
set_option linter.unusedSimpArgs false
namespace Go.Proofs.YtbnpclndiichcaaGreatDoor.Pl
open Go Go.Proofs.YtbnpclndiichcaaGreatDoor.Eng
def dd (n:Int):List UInt8:=[UInt8.ofNat (48+(n / 10 % 10).toNat),UInt8.ofNat (48+(n % 10).toNat)]
def hms (x:Int):List UInt8:=dd (x / 3600)++58 :: (dd (x / 60 % 60)++58 :: dd (x % 60))
theorem checkG_all:∀ (p:List LR) (k:Nat) (a:Int),(checkG k a p).2.1=0→∀ l∈p,730≤l.1∧l.1 < 2932896∧(l.2.1=1∨l.2.1=-1)
 | [],k,a,h,l,hl=>by cases hl
 | x :: p,k,a,h,l,hl=>by
  rw [checkG] at h
  split at h
  ·rename_i hw; exact absurd h hw
  ·rename_i hw
   have hw:wrongL k x a=0:=by omega
   obtain ⟨_,q1,q2,_,q3,_⟩:=wrongL_0 hw
   cases hl with
   | head=>exact ⟨q1,q2,q3⟩
   | tail _ hl=>exact checkG_all p _ _ h l hl
theorem right_0 {t:Tb} (h:rightT t=true):(checkG 0 729 t.ls).2.1=0∧expB t.has t.ex (checkG 0 729 t.ls).2.2=0:=by
 unfold rightT checkT at h
 rw [beq_iff_eq] at h
 split at h
 ·rename_i hw; exact absurd h hw
 ·rename_i hw; exact ⟨by omega,h⟩
theorem right_ex {t:Tb} (h:rightT t=true):(t.has=false→t.ex=0)∧(t.has=true→63072000≤t.ex∧t.ex≤253402300799):=by
 obtain ⟨h1,h2⟩:=right_0 h
 unfold expB at h2
 constructor
 ·intro hh
  rw [hh,if_neg (by simp)] at h2
  split at h2 <;> omega
 ·intro hh
  rw [hh,if_pos rfl] at h2
  split at h2
  ·omega
  ·split at h2 <;> omega
end Go.Proofs.YtbnpclndiichcaaGreatDoor.Pl
end
section
set_option linter.unusedVariables false
set_option linter.unusedSimpArgs false
namespace Go.Proofs.YtbnpclndiichcaaGreatDoor.Pl
open Go Go.Proofs.YtbnpclndiichcaaGreatDoor.Eng
def midL (l:LR):Int:=(l.1+1) * 86400
def instR (z:Zn) (l:LR):Int:=if l.2.2=true then midL l - (lookZ z (midL l - 1)).1 else midL l
def recG (z:Zn):Int→List LR→List Rec
 | _,[]=>[]
 | s,l :: r=>(instR z l+s+min l.2.1 0,s+l.2.1) :: recG z (s+l.2.1) r
def stepsL (ls:List LR):Int:=(ls.map (·.2.1)).sum
def recAll (z:Zn) (t:Tb):List Rec:=recG z 0 t.ls++(if t.has=true then [(t.ex+stepsL t.ls,stepsL t.ls)] else [])
def recErr:Nat→Rec→List Rec→Int
 | _,_,[]=>0
 | k,b,c :: r =>
  if 200 < k then 8 else if c.1 < 0 then 9 else if (decide (c.2 - b.2=0) && r.isEmpty)=false∧c.2 - b.2≠1∧c.2 - b.2≠-1 then 6
  else if 0 < k∧c.1 - b.1 < (if (decide (c.2 - b.2=0) && r.isEmpty)=true then 0 else 2419199) then 7 else recErr (k+1) c r
def recE (l:List Rec):Int:=recErr 0 (-2419199,0) l
theorem recErr_ok:∀ (l:List Rec) (k:Nat) (b:Rec),recErr k b l=0↔recOk k b l=true
 | [],k,b=>by simp [recErr,recOk]
 | c :: r,k,b=>by
  rw [recErr,recOk]
  generalize (decide (c.2 - b.2=0) && r.isEmpty)=e
  rw [Bool.and_eq_true,← recErr_ok r (k+1) c]
  simp only [Bool.and_eq_true,Bool.or_eq_true,decide_eq_true_eq]
  split
  ·constructor
   ·intro h; omega
   ·intro h; omega
  split
  ·constructor
   ·intro h; omega
   ·intro h; omega
  cases e
  ·simp only [true_and,Bool.false_eq_true,false_or,if_false]
   split
   ·constructor
    ·intro h; omega
    ·intro h; omega
   split
   ·constructor
    ·intro h; omega
    ·intro h; omega
   ·constructor
    ·intro h; exact ⟨⟨⟨⟨by omega,by omega⟩,by omega⟩,by omega⟩,h⟩
    ·intro h; exact h.2
  ·simp only [Bool.true_eq_false,false_and,if_false,true_or,and_true,if_true]
   split
   ·constructor
    ·intro h; omega
    ·intro h; omega
   ·constructor
    ·intro h; exact ⟨⟨⟨by omega,by omega⟩,by omega⟩,h⟩
    ·intro h; exact h.2
def inI (n:Int):Prop:=-9223372036854775808≤n∧n≤9223372036854775807
instance (n:Int):Decidable (inI n):=by unfold inI; infer_instance
def shiftS (z:Zn) (ls:List LR) (p:Int):Int:=((ls.filter fun l=>decide (instR z l≤p)).map (·.2.1)).sum
def shiftR (z:Zn) (ls:List LR) (p:Int):Int×Bool:=if inI (p+shiftS z ls p) then (p+shiftS z ls p,true) else (0,false)
def zn0:Zn:=⟨[],[],[],[],0⟩
def rising:List Rec→Bool
 | []=>true
 | [_]=>true
 | a :: b :: r=>decide (a.1 < b.1) && rising (b :: r)
def stepT (ls:List LR) (i:Nat):Int:=(ls.getD i (0,0,false)).2.1
def sumT (ls:List LR) (i:Nat):Int:=stepsL (ls.take i)
theorem stepsL_cons (l:LR) (r:List LR):stepsL (l :: r)=l.2.1+stepsL r:=by simp [stepsL]
theorem stepsL_app (a b:List LR):stepsL (a++b)=stepsL a+stepsL b:=by simp [stepsL]
theorem sumT_succ {ls:List LR} {i:Nat} (h:i < ls.length):sumT ls (i+1)=sumT ls i+stepT ls i:=by
 unfold sumT stepT
 rw [List.take_succ_eq_append_getElem h,stepsL_app,List.getD,List.getElem?_eq_getElem h]; simp [stepsL]
theorem recG_len (z:Zn):∀ (ls:List LR) (s:Int),(recG z s ls).length=ls.length
 | [],_=>rfl
 | l :: r,s=>by rw [recG,List.length_cons,List.length_cons,recG_len z r]
theorem recG_get (z:Zn):∀ (ls:List LR) (s:Int) (i:Nat) (h:i < ls.length) (h':i < (recG z s ls).length),
  (recG z s ls)[i]=(instR z ls[i]+(s+sumT ls i)+min (stepT ls i) 0,s+sumT ls (i+1))
 | l :: r,s,0,h,h'=>by simp [recG,sumT,stepT,stepsL]
 | l :: r,s,i+1,h,h'=>by
  have hr:i < r.length:=by simpa using h
  have:=recG_get z r (s+l.2.1) i hr (by rw [recG_len]; exact hr)
  simp only [recG,List.getElem_cons_succ]
  rw [this]
  unfold sumT stepT
  rw [List.take_succ_cons,List.take_succ_cons,stepsL_cons,stepsL_cons]
  simp [Int.add_assoc]
theorem recOk_gaps:∀ (l:List Rec) (k:Nat) (b:Rec),recOk k b l=true→∀ i (h:i < l.length),0≤(l[i]).1∧k+i≤200∧∀ h':i+1 < l.length,(l[i+1]).1 - (l[i]).1≥(if (l[i+1]).2 - (l[i]).2=0∧i+2=l.length then 0 else 2419199)
 | c :: r,k,b,h,i,hi=>by
  rw [recOk] at h
  simp only [Bool.and_eq_true,decide_eq_true_eq] at h
  obtain ⟨⟨⟨⟨h1,h2⟩,h3⟩,h4⟩,h5⟩:=h
  cases i with
  | zero =>
   refine ⟨h2,by omega,fun h'=>?_⟩
   cases r with
   | nil=>simp at h'
   | cons d q =>
    rw [recOk] at h5
    simp only [Bool.and_eq_true,decide_eq_true_eq,Bool.or_eq_true] at h5
    have g:=h5.1.2
    simp only [List.getElem_cons_succ,List.getElem_cons_zero,List.length_cons]
    have g:d.1 - c.1≥if d.2 - c.2=0∧q.isEmpty=true then 0 else 2419199:=by
     rcases g with g | g
     ·omega
     ·exact g
    cases q with
    | nil=>simpa using g
    | cons x y =>
     have g':¬ (d.2 - c.2=0∧(x :: y).isEmpty=true):=by simp
     rw [if_neg g'] at g
     rw [if_neg (by simp)]; exact g
  | succ i =>
   have hi':i < r.length:=by simpa using hi
   obtain ⟨g1,g2,g3⟩:=recOk_gaps r (k+1) c h5 i hi'
   refine ⟨by simpa using g1,by omega,fun h'=>?_⟩
   have:=g3 (by simpa using h')
   simp only [List.getElem_cons_succ,List.length_cons]
   by_cases q:(r[i+1]'(by simpa using h')).2 - (r[i]).2=0∧i+2=r.length
   ·rw [if_pos q] at this; rw [if_pos ⟨q.1,by omega⟩]; exact this
   ·rw [if_neg q] at this; rw [if_neg (fun hh=>q ⟨hh.1,by omega⟩)]; exact this
theorem recG_lastcorr (z:Zn):∀ (ls:List LR) (s:Int),ls≠[]→((recG z s ls).getD (ls.length - 1) (0,0)).2=s+stepsL ls:=fun ls s h=>by
 have hp:0 < ls.length:=List.length_pos_iff.2 h
 have h':ls.length - 1 < (recG z s ls).length:=by rw [recG_len]; omega
 rw [List.getD,List.getElem?_eq_getElem h',Option.getD_some,recG_get z ls s (ls.length - 1) (by omega) h']
 show s+sumT ls (ls.length - 1+1)=_
 rw [show ls.length - 1+1=ls.length by omega]
 unfold sumT; rw [List.take_length]
theorem getD_app_lt {α:Type} (a b:List α) (d:α) (i:Nat) (h:i < a.length):(a++b).getD i d=a.getD i d:=by
 simp only [List.getD]; rw [List.getElem?_append_left h]
theorem leapsR_all (z:Zn) (t:Tb) (hst:∀ l∈t.ls,l.2.1=1∨l.2.1=-1):leapsR (recAll z t)=recG z 0 t.ls∧(lastExp (recAll z t)=t.has):=by
 have key:lastExp (recAll z t)=t.has:=by
  unfold recAll
  cases hh:t.has
  ·rw [if_neg (by simp),List.append_nil]
   unfold lastExp
   rw [recG_len]
   have s1:t.ls.length=1→((recG z 0 t.ls).getD 0 (0,0)).2≠0:=fun e=>by
    have h':0 < (recG z 0 t.ls).length:=by rw [recG_len]; omega
    rw [List.getD,List.getElem?_eq_getElem h',Option.getD_some,recG_get z t.ls 0 0 (by omega) h']
    have:=hst _ (List.getElem_mem (show 0 < t.ls.length by omega))
    have e2:=sumT_succ (ls:=t.ls) (i:=0) (by omega)
    have e3:stepT t.ls 0=(t.ls[0]'(by omega)).2.1:=by unfold stepT; rw [List.getD,List.getElem?_eq_getElem (by omega)]; rfl
    have e4:sumT t.ls 0=0:=rfl
    simp only
    omega
   have s2:1 < t.ls.length→((recG z 0 t.ls).getD (t.ls.length - 1) (0,0)).2≠((recG z 0 t.ls).getD (t.ls.length - 2) (0,0)).2:=fun e=>by
    have h1:t.ls.length - 1 < (recG z 0 t.ls).length:=by rw [recG_len]; omega
    have h2:t.ls.length - 2 < (recG z 0 t.ls).length:=by rw [recG_len]; omega
    rw [List.getD,List.getElem?_eq_getElem h1,Option.getD_some,recG_get z t.ls 0 _ (by omega) h1,List.getD,List.getElem?_eq_getElem h2,Option.getD_some,recG_get z t.ls 0 _ (by omega) h2]
    have:=hst _ (List.getElem_mem (show t.ls.length - 1 < t.ls.length by omega))
    have e2:=sumT_succ (ls:=t.ls) (i:=t.ls.length - 1) (by omega)
    have e3:stepT t.ls (t.ls.length - 1)=(t.ls[t.ls.length - 1]'(by omega)).2.1:=by unfold stepT; rw [List.getD,List.getElem?_eq_getElem (by omega)]; rfl
    rw [show t.ls.length - 2+1=t.ls.length - 1 by omega]
    simp only
    omega
   rw [Bool.or_eq_false_iff,Bool.and_eq_false_iff,Bool.and_eq_false_iff]
   constructor
   ·by_cases e:t.ls.length=1
    ·exact .inr (by simpa using s1 e)
    ·exact .inl (by simpa using e)
   ·by_cases e:1 < t.ls.length
    ·exact .inr (by simpa using s2 e)
    ·exact .inl (by simpa using e)
  ·rw [if_pos rfl]
   unfold lastExp
   rw [List.length_append,recG_len,List.length_singleton,Nat.add_sub_cancel]
   have l0:(recG z 0 t.ls++[(t.ex+stepsL t.ls,stepsL t.ls)]).getD t.ls.length (0,0)=(t.ex+stepsL t.ls,stepsL t.ls):=by
    have:t.ls.length=(recG z 0 t.ls).length:=by rw [recG_len]
    simp only [List.getD]
    rw [this,List.getElem?_append_right (Nat.le_refl _)]; simp
   by_cases e:t.ls=[]
   ·rw [e]; simp [recG,stepsL]
   ·have hp:0 < t.ls.length:=List.length_pos_iff.2 e
    rw [l0,show t.ls.length+1 - 2=t.ls.length - 1 by omega,getD_app_lt _ _ _ (t.ls.length - 1) (by rw [recG_len]; omega),recG_lastcorr z t.ls 0 e]
    have:decide (1 < t.ls.length+1)=true:=decide_eq_true (by omega)
    rw [this]
    simp
 refine ⟨?_,key⟩
 unfold leapsR
 rw [key]
 unfold recAll
 cases t.has
 ·simp
 ·rw [if_pos rfl,if_pos rfl,List.length_append,List.length_singleton,Nat.add_sub_cancel,List.take_left']
  rfl
theorem getLast_take {α:Type} (l:List α) (n:Nat) (h:n≤l.length):(l.take n).getLast? = if n=0 then none else l[n - 1]?:=by
 rw [List.getLast?_take]
 split
 ·rfl
 ·rw [List.getElem?_eq_getElem (by omega)]; simp
theorem sumR_all (z:Zn) (t:Tb) (hst:∀ l∈t.ls,l.2.1=1∨l.2.1=-1) (at':Int):sumR (recAll z t) at'=sumT t.ls (fl (fun c:Rec=>decide (c.1 > at')) (recG z 0 t.ls)):=by
 unfold sumR
 rw [(leapsR_all z t hst).1]
 have hle:=fl_le (fun c:Rec=>decide (c.1 > at')) (recG z 0 t.ls)
 rw [getLast_take _ _ hle]
 rw [recG_len] at hle
 generalize fl (fun c:Rec=>decide (c.1 > at')) (recG z 0 t.ls)=n at *
 by_cases e:n=0
 ·rw [if_pos e,e]; rfl
 ·have h':n - 1 < (recG z 0 t.ls).length:=by rw [recG_len]; omega
  rw [if_neg e,List.getElem?_eq_getElem h',recG_get z t.ls 0 (n - 1) (by omega) h',show n - 1+1=n by omega]
  simp
end Go.Proofs.YtbnpclndiichcaaGreatDoor.Pl
end
section
set_option linter.unusedVariables false
set_option linter.unusedSimpArgs false
namespace Go.Proofs.YtbnpclndiichcaaGreatDoor.Pl
open Go Go.Proofs.YtbnpclndiichcaaGreatDoor.Eng
theorem right_steps {t:Tb} (h:rightT t=true):∀ l∈t.ls,l.2.1=1∨l.2.1=-1:=fun l hl=>(checkG_all _ _ _ (right_0 h).1 l hl).2.2
structure CompOk (z:Zn) (t:Tb) (y:Zn):Prop where
 lp:z.lp=[]
 zr:zoneRight z=true
 tr:rightT t=true
 ro:recE (recAll z t)=0
 al:z.tr.all (fun c=>(shiftR z t.ls c.1).2)=true
 ri:rising (z.tr.map fun c=>((shiftR z t.ls c.1).1,c.2))=true
 eq:y=⟨z.ty,z.tr.map fun c=>((shiftR z t.ls c.1).1,c.2),recAll z t,z.ft,if t.has=true then 4 else z.v⟩
theorem recOk_len (l:List Rec) (h:recOk 0 (-2419199,0) l=true):l.length≤201:=by
 by_cases e:l=[]
 ·rw [e]; simp
 ·have hp:0 < l.length:=List.length_pos_iff.2 e
  have:=(recOk_gaps l 0 _ h (l.length - 1) (by omega)).2.1
  omega
theorem stepsL_bd:∀ (ls:List LR),(∀ l∈ls,l.2.1=1∨l.2.1=-1)→-(ls.length:Int)≤stepsL ls∧stepsL ls≤ls.length
 | [],_=>by simp [stepsL]
 | l :: r,h=>by
  have:=stepsL_bd r fun x hx=>h x (.tail _ hx)
  have:=h l (.head _)
  rw [stepsL_cons,List.length_cons]; omega
theorem right_len {t:Tb} (h:rightT t=true):t.ls.length≤200:=by
 have:∀ (p:List LR) (k:Nat) (a:Int),(checkG k a p).2.1=0→p=[]∨k+p.length≤200:=by
  intro p
  induction p with
  | nil=>intro k a _; exact .inl rfl
  | cons x p ih =>
   intro k a h
   rw [checkG] at h
   split at h
   ·rename_i hw; exact absurd h hw
   ·rename_i hw
    have hw:wrongL k x a=0:=by omega
    obtain ⟨q0,_⟩:=wrongL_0 hw
    rcases ih _ _ h with rfl | h'
    ·right; simp; omega
    ·right; simp; omega
 rcases this _ _ _ (right_0 h).1 with e | e
 ·rw [e]; simp
 ·omega
theorem ends_apart {a b:Int} (ha:endD a=true) (hb:endD b=true) (h:a < b):a+28≤b:=by
 unfold endD at ha hb
 rw [Bool.and_eq_true,decide_eq_true_eq,beq_iff_eq] at ha hb
 obtain ⟨⟨v1,v2,v3,v4,v5,v6⟩,e⟩:=num_date hb.1.1 hb.1.2
 have hd:=dim_bd (yearP b) (monP b)
 by_cases hlt:b - a < 28
 ·have hv:Vld (yearP b) (monP b) (dim (yearP b) (monP b) - (b - a)):=⟨v1,v2,v3,v4,by omega,by omega⟩
  have hn:num (yearP b) (monP b) (dim (yearP b) (monP b) - (b - a))=a:=by
   unfold num at e ⊢
   rw [hb.2] at e; omega
  obtain ⟨q1,q2,q3⟩:=date_num hv
  rw [hn] at q1 q2 q3
  have:=ha.2
  rw [q1,q2,q3] at this
  omega
 ·omega
theorem checkG_days:∀ (p:List LR) (k:Nat) (a:Int),(checkG k a p).2.1=0→(∀ i (h:i < p.length),endD (p[i]).1=true∧a < (p[i]).1)∧∀ i j (hi:i < p.length) (hj:j < p.length),i < j→(p[i]).1+28≤(p[j]).1
 | [],k,a,h=>⟨fun i hi=>by simp at hi,fun i j hi=>by simp at hi⟩
 | x :: p,k,a,h=>by
  rw [checkG] at h
  split at h
  ·rename_i hw; exact absurd h hw
  ·rename_i hw
   have hw:wrongL k x a=0:=by omega
   obtain ⟨_,q1,q2,q3,q4,q5⟩:=wrongL_0 hw
   obtain ⟨r1,r2⟩:=checkG_days p _ _ h
   refine ⟨fun i hi=>?_,fun i j hi hj hij=>?_⟩
   ·cases i with
    | zero=>exact ⟨q3,q5⟩
    | succ i =>
     have:=r1 i (by simpa using hi)
     simp only [List.getElem_cons_succ]
     exact ⟨this.1,by omega⟩
   ·cases j with
    | zero=>omega
    | succ j =>
     have hj':j < p.length:=by simpa using hj
     simp only [List.getElem_cons_succ]
     cases i with
     | zero=>exact ends_apart q3 (r1 j hj').1 (r1 j hj').2
     | succ i =>
      simp only [List.getElem_cons_succ]
      exact r2 i j (by simpa using hi) hj' (by omega)
theorem right_days {t:Tb} (h:rightT t=true):∀ i j (hi:i < t.ls.length) (hj:j < t.ls.length),i < j→(t.ls[i]).1+28≤(t.ls[j]).1:=(checkG_days _ _ _ (right_0 h).1).2
theorem right_rng {t:Tb} (h:rightT t=true):∀ l∈t.ls,730≤l.1∧l.1 < 2932896:=fun l hl=>⟨(checkG_all _ _ _ (right_0 h).1 l hl).1,(checkG_all _ _ _ (right_0 h).1 l hl).2.1⟩
def offOk (z:Zn):Prop:=∀ a,-89999≤(lookZ z a).1∧(lookZ z a).1≤93599
end Go.Proofs.YtbnpclndiichcaaGreatDoor.Pl
end
section
set_option linter.unusedVariables false
set_option linter.unusedSimpArgs false
namespace Go.Proofs.YtbnpclndiichcaaGreatDoor.Pl
open Go Go.Proofs.YtbnpclndiichcaaGreatDoor.Eng
theorem stepT_of {t:Tb} (hst:∀ l∈t.ls,l.2.1=1∨l.2.1=-1):∀ i,i < t.ls.length→stepT t.ls i=1∨stepT t.ls i=-1:=fun i h=>by
 have:=hst _ (List.getElem_mem h)
 unfold stepT
 rw [List.getD,List.getElem?_eq_getElem h]; exact this
theorem sumT_bd {t:Tb} (hst:∀ l∈t.ls,l.2.1=1∨l.2.1=-1) (i:Nat):-(t.ls.length:Int)≤sumT t.ls i∧sumT t.ls i≤t.ls.length:=by
 have:=stepsL_bd (t.ls.take i) fun l hl=>hst l (List.mem_of_mem_take hl)
 have h2:(t.ls.take i).length≤t.ls.length:=by simp; omega
 unfold sumT; omega
theorem inst_utc {z:Zn} {l:LR} (h:l.2.2=false):instR z l=midL l:=by unfold instR; rw [if_neg (by simp [h])]
theorem look_off {z:Zn} (h:zoneRight z=true) (hf:∀ p,z.ft≠[]→-89999≤((Ft.parse z.ft).1.look p).1∧((Ft.parse z.ft).1.look p).1≤89999):offOk z:=by
 intro a
 unfold zoneRight at h
 simp only [Bool.and_eq_true] at h
 obtain ⟨⟨⟨⟨⟨c,r⟩,e⟩,ty⟩,tr⟩,en⟩:=h
 have hty:∀ t∈z.ty,-89999≤t.1∧t.1≤93599:=fun t ht=>by simpa using List.all_eq_true.1 ty t ht
 unfold lookZ
 split
 ·rename_i h1; have:=hf (posixR z a) h1.1; omega
 ·split
  ·cases hz:z.ty with
   | nil=>simp
   | cons x y=>exact hty x (by rw [hz]; exact .head _)
  ·rename_i c hc
   by_cases hlt:c.2.toNat < z.ty.length
   ·rw [List.getD,List.getElem?_eq_getElem hlt]; exact hty _ (List.getElem_mem hlt)
   ·rw [List.getD,List.getElem?_eq_none (by omega)]; simp
end Go.Proofs.YtbnpclndiichcaaGreatDoor.Pl
namespace Go.Proofs.YtbnpclndiichcaaGreatDoor.Pl
open Go Go.Proofs.YtbnpclndiichcaaGreatDoor.Eng
theorem foot_off {l:List UInt8} (h:(Ft.parse l).2=true) (p:Int):-89999≤((Ft.parse l).1.look p).1∧((Ft.parse l).1.look p).1≤89999:=by
 have hok:=parse_ok l h
 have hok':=hok
 unfold Ft.ok at hok'
 rw [Bool.and_eq_true] at hok'
 unfold Ft.look
 split
 ·rename_i hs
  have hh:(Ft.parse l).1.has=true:=hs.2.1.1
  have:=hok'.2
  rw [if_pos hh,Bool.and_eq_true,Bool.and_eq_true] at this
  exact (kind_all.1 this.1.1).2.2
 ·exact (kind_all.1 hok'.1).2.2
theorem right_off {z:Zn} (h:zoneRight z=true):offOk z:=look_off h fun p hne=>by
 unfold zoneRight at h
 simp only [Bool.and_eq_true] at h
 have en:=h.2
 unfold endsOk at en
 rw [Bool.or_eq_true,List.isEmpty_iff,Bool.and_eq_true] at en
 exact foot_off (en.resolve_left hne).1 p
end Go.Proofs.YtbnpclndiichcaaGreatDoor.Pl
end
