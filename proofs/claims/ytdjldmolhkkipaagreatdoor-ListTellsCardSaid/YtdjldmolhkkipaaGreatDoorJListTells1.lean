/- What the functions come to in plain data, with proofs, and what that answers. -/
import Derived.Test.YtdjldmolhkkipaaGreatDoorJListTells0
import Derived.Lib.Strings
import Derived.Lib.Atoi
import Derived.Laws.Concat
import Derived.Laws.RangeAny
import Derived.Lib.Bytealg
section
set_option linter.unusedVariables false
set_option linter.unusedSimpArgs false
namespace Go.Proofs.YtdjldmolhkkipaaGreatDoor
open Go Go.Proofs.YtdjldmolhkkipaaGreatDoor.Eng
set_option maxRecDepth 100000
set_option maxHeartbeats 4000000
variable {G:Gs}
abbrev Tq0o:Type:=Q91→(Q37→Prop)→Prop
def Lq0o_0 (K:Q37→Prop):(Q193→Prop)→Q193→Prop:=fun k1 x2 =>
 (if decide (x2.1.2.2.2.1 < 20) then
 (if 0≤w64 (Int.tdiv x2.1.2.2.2.1 4)∧w64 (Int.tdiv x2.1.2.2.2.1 4) < 5 then
 (Eng.asInt IntKind.u32 (Eng.getC x2.2.2.2.1 (0:Nat) ((0:Nat)+Int.toNat (w64 (Int.tdiv x2.1.2.2.2.1 4)) * (1:Nat))) False fun n3 =>
 (if 0≤x2.1.2.2.2.1∧x2.1.2.2.2.1 < 20 then
 (Eng.asInt IntKind.u8 ([Eng.V.c (Value.int IntKind.u8 x2.2.1.1),Eng.V.c (Value.int IntKind.u8 x2.2.1.2.1),Eng.V.c (Value.int IntKind.u8 x2.2.1.2.2.1),Eng.V.c (Value.int IntKind.u8 x2.2.1.2.2.2.1),Eng.V.c (Value.int IntKind.u8 x2.2.1.2.2.2.2.1),Eng.V.c (Value.int IntKind.u8 x2.2.1.2.2.2.2.2.1),Eng.V.c (Value.int IntKind.u8 x2.2.1.2.2.2.2.2.2.1),Eng.V.c (Value.int IntKind.u8 x2.2.1.2.2.2.2.2.2.2.1),Eng.V.c (Value.int IntKind.u8 x2.2.1.2.2.2.2.2.2.2.2.1),Eng.V.c (Value.int IntKind.u8 x2.2.1.2.2.2.2.2.2.2.2.2.1),Eng.V.c (Value.int IntKind.u8 x2.2.1.2.2.2.2.2.2.2.2.2.2.1),Eng.V.c (Value.int IntKind.u8 x2.2.1.2.2.2.2.2.2.2.2.2.2.2.1),Eng.V.c (Value.int IntKind.u8 x2.2.1.2.2.2.2.2.2.2.2.2.2.2.2.1),Eng.V.c (Value.int IntKind.u8 x2.2.1.2.2.2.2.2.2.2.2.2.2.2.2.2.1),Eng.V.c (Value.int IntKind.u8 x2.2.1.2.2.2.2.2.2.2.2.2.2.2.2.2.2.1),Eng.V.c (Value.int IntKind.u8 x2.2.1.2.2.2.2.2.2.2.2.2.2.2.2.2.2.2.1),Eng.V.c (Value.int IntKind.u8 x2.2.1.2.2.2.2.2.2.2.2.2.2.2.2.2.2.2.2.1),Eng.V.c (Value.int IntKind.u8 x2.2.1.2.2.2.2.2.2.2.2.2.2.2.2.2.2.2.2.2.1),Eng.V.c (Value.int IntKind.u8 x2.2.1.2.2.2.2.2.2.2.2.2.2.2.2.2.2.2.2.2.2.1),Eng.V.c (Value.int IntKind.u8 x2.2.1.2.2.2.2.2.2.2.2.2.2.2.2.2.2.2.2.2.2.2.1)][(0:Nat)+Int.toNat x2.1.2.2.2.1 * (1:Nat)]?) False fun n4 =>
 (lt (wu32 (↑(BitVec.toNat (BitVec.ofInt (32:Nat) (wu32 (n3 * 256)) ||| BitVec.ofInt (32:Nat) (wu32 n4))):Int)) fun v5 =>
 (if 0≤w64 (Int.tdiv x2.1.2.2.2.1 4)∧w64 (Int.tdiv x2.1.2.2.2.1 4) < 5 then
 (if (0:Nat) < List.length x2.2.2.2.1 then
 (if (0:Nat)+Int.toNat (w64 (Int.tdiv x2.1.2.2.2.1 4)) * (1:Nat)+List.length [Eng.V.c (Value.int IntKind.u32 v5)]≤(5:Nat) then
 (lt (List.set x2.2.2.2.1 (0:Nat) (Eng.setE (List.getD x2.2.2.2.1 (0:Nat) Eng.V.bad) ((0:Nat)+Int.toNat (w64 (Int.tdiv x2.1.2.2.2.1 4)) * (1:Nat)) [Eng.V.c (Value.int IntKind.u32 v5)])) fun v6 =>
 k1 (((),(),(),w64 (x2.1.2.2.2.1+1),()),x2.2.1,x2.2.2.1,v6,()))
 else
 False)
 else
 False)
 else
 False)))
 else
 False))
 else
 False)
 else
 (Eng.asInt IntKind.u32 (Eng.getC x2.2.2.2.1 (0:Nat) (0:Nat)) False fun n7 =>
 (Eng.asInt IntKind.u32 (Eng.getC x2.2.2.2.1 (0:Nat) (1:Nat)) False fun n8 =>
 (Eng.asInt IntKind.u32 (Eng.getC x2.2.2.2.1 (0:Nat) (2:Nat)) False fun n9 =>
 (Eng.asInt IntKind.u32 (Eng.getC x2.2.2.2.1 (0:Nat) (3:Nat)) False fun n10 =>
 (Eng.asInt IntKind.u32 (Eng.getC x2.2.2.2.1 (0:Nat) (4:Nat)) False fun n11 =>
 (if (0:Nat) < List.length x2.2.2.1 then
 (lt (List.set x2.2.2.1 (0:Nat) (Eng.setE (List.getD x2.2.2.1 (0:Nat) Eng.V.bad) (0:Nat) [Eng.V.c (Value.int IntKind.u32 n7),Eng.V.c (Value.int IntKind.u32 n8),Eng.V.c (Value.int IntKind.u32 n9),Eng.V.c (Value.int IntKind.u32 n10),Eng.V.c (Value.int IntKind.u32 n11)])) fun v12 =>
 (Eng.asInt IntKind.u32 (Eng.getC v12 (0:Nat) (0:Nat)) False fun n13 =>
 (Eng.asInt IntKind.u32 (Eng.getC v12 (0:Nat) (1:Nat)) False fun n14 =>
 (Eng.asInt IntKind.u32 (Eng.getC v12 (0:Nat) (2:Nat)) False fun n15 =>
 (Eng.asInt IntKind.u32 (Eng.getC v12 (0:Nat) (3:Nat)) False fun n16 =>
 (Eng.asInt IntKind.u32 (Eng.getC v12 (0:Nat) (4:Nat)) False fun n17 =>
 K (n13,n14,n15,n16,n17,())))))))
 else
 False)))))))
def Lq0o_0p:Lp:=⟨30,[.trim 30],pT194,pH195,0⟩
def Yq0o (a0:Q91) (K:Q37→Prop):Prop :=
 lp (Lq0o_0 K) (((),(),(),0,()),a0,[Eng.V.agg [Eng.V.c (Value.int IntKind.u32 0),Eng.V.c (Value.int IntKind.u32 0),Eng.V.c (Value.int IntKind.u32 0),Eng.V.c (Value.int IntKind.u32 0),Eng.V.c (Value.int IntKind.u32 0)]],[Eng.V.agg [Eng.V.c (Value.int IntKind.u32 0),Eng.V.c (Value.int IntKind.u32 0),Eng.V.c (Value.int IntKind.u32 0),Eng.V.c (Value.int IntKind.u32 0),Eng.V.c (Value.int IntKind.u32 0)]],())
def Xq0o:Tq0o:=Yq0o
def Jq0o (X:Tq0o):Inst:=mkI 33 pL100 .nil pL110 .nil X
def Iq0o:Inst:=Jq0o Xq0o
theorem Eq0o:EqF Tryz.prog 23 gives Tryz.f33 [] [Lq0o_0p] (Jq0o (Yq0o)):=fun x y K=>by kernel_rfl
theorem Iq0o_ok:InstOk Tryz.prog G.1 Iq0o:=iok (gives:=gives) [Lq0o_0p] okNil 23 follows Tryz.func33 (by kernel_rfl) (fun x=>by kernel_rfl) (Eq0o)
abbrev Tq0w:Type:=ByteArray→(Q58→Q67→(List Eng.V)→Bool→Bool→Prop)→Prop
def Lq0w_0 (xq15:Tq15) (xq0q:Tq0q) (xq19:Tq19) (xq0m:Tq0m) (xq1g:Tq1g) (xq0z:Tq0z) (xq0o:Tq0o) (K:Q58→Q67→(List Eng.V)→Bool→Bool→Prop):(Q196→Prop)→Q196→Prop:=fun k4 x5 =>
 (if decide (x5.1.2.2.2.2.2.2.1 < (↑(List.length x5.2.2.2.2.1.1):Int)) then
 (if 0≤x5.1.2.2.2.2.2.2.1∧x5.1.2.2.2.2.2.2.1 < (↑(List.length x5.2.2.2.2.1.1):Int) then
 (Eng.asInt IntKind.i64 (Eng.getC x5.2.2.2.2.1.1 (Int.toNat x5.1.2.2.2.2.2.2.1) (0:Nat)) False fun n6 =>
 (Eng.asBool (Eng.getC x5.2.2.2.2.1.1 (Int.toNat x5.1.2.2.2.2.2.2.1) (1:Nat)) False fun b7 =>
 (Eng.asSl (1:Nat) (Eng.getC x5.2.2.2.2.1.1 (Int.toNat x5.1.2.2.2.2.2.2.1) (2:Nat)) False fun l8 l9 =>
 (Eng.asInt IntKind.i64 (Eng.getC x5.2.2.2.2.1.1 (Int.toNat x5.1.2.2.2.2.2.2.1) (3:Nat)) False fun n10 =>
 (Eng.asInt IntKind.i64 (Eng.getC x5.2.2.2.2.1.1 (Int.toNat x5.1.2.2.2.2.2.2.1) (4:Nat)) False fun n11 =>
 (if (n6 == 1) then
 (if (!b7) then
 K ((),false,0,()) (w64 (x5.1.2.2.2.2.2.2.1+1),2,()) [] true true
 else
 xq15 x5.2.2.2.2.1.1 n6 (fun r12 =>
 (if (r12 != x5.1.2.2.2.2.2.2.1) then
 K ((),false,0,()) (w64 (x5.1.2.2.2.2.2.2.1+1),2,()) [] true true
 else
 (if (n6 != 5) then
 k4 ((x5.1.1,(),(),(),(),x5.1.2.2.2.2.2.1,w64 (x5.1.2.2.2.2.2.2.1+1),()),x5.2)
 else
 (if decide (x5.1.2.2.2.2.2.1 < 0) then
 xq0q n10 (fun r13 r14 =>
 (if (r13 != 63072000) then
 K ((),false,0,()) (w64 (x5.1.2.2.2.2.2.2.1+1),9,()) [] true true
 else
 (if (n11 != 10) then
 K ((),false,0,()) (w64 (x5.1.2.2.2.2.2.2.1+1),9,()) [] true true
 else
 k4 ((x5.1.1,(),(),(),(),n11,w64 (x5.1.2.2.2.2.2.2.1+1),()),x5.2))))
 else
 xq19 x5.2.2.2.1 (n6,b7,l9,n10,n11,()) x5.1.2.2.2.2.2.1 (fun r15 r16 r17 r18 r19 =>
 (if (r16 != 0) then
 K ((),false,0,()) (w64 (x5.1.2.2.2.2.2.2.1+1),r16,()) [] true true
 else
 k4 ((x5.1.1,(),(),(),(),n11,w64 (x5.1.2.2.2.2.2.2.1+1),()),x5.2.1,x5.2.2.1,(r17,r15.2),x5.2.2.2.2))))))))
 else
 (if (n6 == 2) then
 (if (!b7) then
 K ((),false,0,()) (w64 (x5.1.2.2.2.2.2.2.1+1),2,()) [] true true
 else
 xq15 x5.2.2.2.2.1.1 n6 (fun r20 =>
 (if (r20 != x5.1.2.2.2.2.2.2.1) then
 K ((),false,0,()) (w64 (x5.1.2.2.2.2.2.2.1+1),2,()) [] true true
 else
 (if (n6 != 5) then
 k4 ((x5.1.1,(),(),(),(),x5.1.2.2.2.2.2.1,w64 (x5.1.2.2.2.2.2.2.1+1),()),x5.2)
 else
 (if decide (x5.1.2.2.2.2.2.1 < 0) then
 xq0q n10 (fun r21 r22 =>
 (if (r21 != 63072000) then
 K ((),false,0,()) (w64 (x5.1.2.2.2.2.2.2.1+1),9,()) [] true true
 else
 (if (n11 != 10) then
 K ((),false,0,()) (w64 (x5.1.2.2.2.2.2.2.1+1),9,()) [] true true
 else
 k4 ((x5.1.1,(),(),(),(),n11,w64 (x5.1.2.2.2.2.2.2.1+1),()),x5.2))))
 else
 xq19 x5.2.2.2.1 (n6,b7,l9,n10,n11,()) x5.1.2.2.2.2.2.1 (fun r23 r24 r25 r26 r27 =>
 (if (r24 != 0) then
 K ((),false,0,()) (w64 (x5.1.2.2.2.2.2.2.1+1),r24,()) [] true true
 else
 k4 ((x5.1.1,(),(),(),(),n11,w64 (x5.1.2.2.2.2.2.2.1+1),()),x5.2.1,x5.2.2.1,(r25,r23.2),x5.2.2.2.2))))))))
 else
 (if (!b7) then
 K ((),false,0,()) (w64 (x5.1.2.2.2.2.2.2.1+1),2,()) [] true true
 else
 (if (n6 == 3) then
 xq15 x5.2.2.2.2.1.1 n6 (fun r28 =>
 (if (r28 != x5.1.2.2.2.2.2.2.1) then
 K ((),false,0,()) (w64 (x5.1.2.2.2.2.2.2.1+1),2,()) [] true true
 else
 (if (n6 != 5) then
 k4 ((x5.1.1,(),(),(),(),x5.1.2.2.2.2.2.1,w64 (x5.1.2.2.2.2.2.2.1+1),()),x5.2)
 else
 (if decide (x5.1.2.2.2.2.2.1 < 0) then
 xq0q n10 (fun r29 r30 =>
 (if (r29 != 63072000) then
 K ((),false,0,()) (w64 (x5.1.2.2.2.2.2.2.1+1),9,()) [] true true
 else
 (if (n11 != 10) then
 K ((),false,0,()) (w64 (x5.1.2.2.2.2.2.2.1+1),9,()) [] true true
 else
 k4 ((x5.1.1,(),(),(),(),n11,w64 (x5.1.2.2.2.2.2.2.1+1),()),x5.2))))
 else
 xq19 x5.2.2.2.1 (n6,b7,l9,n10,n11,()) x5.1.2.2.2.2.2.1 (fun r31 r32 r33 r34 r35 =>
 (if (r32 != 0) then
 K ((),false,0,()) (w64 (x5.1.2.2.2.2.2.2.1+1),r32,()) [] true true
 else
 k4 ((x5.1.1,(),(),(),(),n11,w64 (x5.1.2.2.2.2.2.2.1+1),()),x5.2.1,x5.2.2.1,(r33,r31.2),x5.2.2.2.2)))))))
 else
 (if (n6 != 5) then
 k4 ((x5.1.1,(),(),(),(),x5.1.2.2.2.2.2.1,w64 (x5.1.2.2.2.2.2.2.1+1),()),x5.2)
 else
 (if decide (x5.1.2.2.2.2.2.1 < 0) then
 xq0q n10 (fun r36 r37 =>
 (if (r36 != 63072000) then
 K ((),false,0,()) (w64 (x5.1.2.2.2.2.2.2.1+1),9,()) [] true true
 else
 (if (n11 != 10) then
 K ((),false,0,()) (w64 (x5.1.2.2.2.2.2.2.1+1),9,()) [] true true
 else
 k4 ((x5.1.1,(),(),(),(),n11,w64 (x5.1.2.2.2.2.2.2.1+1),()),x5.2))))
 else
 xq19 x5.2.2.2.1 (n6,b7,l9,n10,n11,()) x5.1.2.2.2.2.2.1 (fun r38 r39 r40 r41 r42 =>
 (if (r39 != 0) then
 K ((),false,0,()) (w64 (x5.1.2.2.2.2.2.2.1+1),r39,()) [] true true
 else
 k4 ((x5.1.1,(),(),(),(),n11,w64 (x5.1.2.2.2.2.2.2.1+1),()),x5.2.1,x5.2.2.1,(r40,r38.2),x5.2.2.2.2))))))))))))))
 else
 False)
 else
 (if decide (x5.1.2.2.2.2.2.1 < 0) then
 K ((),false,0,()) (w64 ((↑(List.length x5.2.2.2.2.1.1):Int)+1),2,()) [] true true
 else
 xq15 x5.2.2.2.2.1.1 2 (fun r43 =>
 (if decide (r43≥0) then
 (if 0≤r43∧r43 < (↑(List.length x5.2.2.2.2.1.1):Int) then
 (Eng.asInt IntKind.i64 (Eng.getC x5.2.2.2.2.1.1 (Int.toNat r43) (3:Nat)) False fun n44 =>
 xq0q n44 (fun r45 r46 =>
 xq0m (x5.2.2.2.1.1,true,r45,()) (fun r47 =>
 (if (!r47) then
 K ((),false,0,()) (w64 (r43+1),9,()) [] true true
 else
 xq15 x5.2.2.2.2.1.1 3 (fun r48 =>
 (if decide (r48≥0) then
 (if 0≤r48∧r48 < (↑(List.length x5.2.2.2.2.1.1):Int) then
 (Eng.asSl (1:Nat) (Eng.getC x5.2.2.2.2.1.1 (Int.toNat r48) (2:Nat)) False fun l49 l50 =>
 (if (0 :Int)≤0∧0 < (↑(List.length l50):Int) then
 (Eng.asStr (Eng.getC l50 (0:Nat) (0:Nat)) False fun t51 =>
 xq1g t51 (fun r52 r53 =>
 xq0z x5.1.1 (fun r54 =>
 xq0o r54 (fun r55 =>
 (lt (!(r52.1 == r55.1 && (r52.2.1 == r55.2.1 && (r52.2.2.1 == r55.2.2.1 && (r52.2.2.2.1 == r55.2.2.2.1 && (r52.2.2.2.2.1 == r55.2.2.2.2.1 && true)))))) fun v56 =>
 (if v56 then
 K ((),false,0,()) (w64 (r48+1),3,()) [] true true
 else
 K ((),true,r45,()) (0,0,()) x5.2.2.2.1.1 false true))))))
 else
 False))
 else
 False)
 else
 K ((),true,r45,()) (0,0,()) x5.2.2.2.1.1 false true))))))
 else
 False)
 else
 xq15 x5.2.2.2.2.1.1 3 (fun r57 =>
 (if decide (r57≥0) then
 (if 0≤r57∧r57 < (↑(List.length x5.2.2.2.2.1.1):Int) then
 (Eng.asSl (1:Nat) (Eng.getC x5.2.2.2.2.1.1 (Int.toNat r57) (2:Nat)) False fun l58 l59 =>
 (if (0 :Int)≤0∧0 < (↑(List.length l59):Int) then
 (Eng.asStr (Eng.getC l59 (0:Nat) (0:Nat)) False fun t60 =>
 xq1g t60 (fun r61 r62 =>
 xq0z x5.1.1 (fun r63 =>
 xq0o r63 (fun r64 =>
 (lt (!(r61.1 == r64.1 && (r61.2.1 == r64.2.1 && (r61.2.2.1 == r64.2.2.1 && (r61.2.2.2.1 == r64.2.2.2.1 && (r61.2.2.2.2.1 == r64.2.2.2.2.1 && true)))))) fun v65 =>
 (if v65 then
 K ((),false,0,()) (w64 (r57+1),3,()) [] true true
 else
 K ((),x5.2.2.2.1.2) (0,0,()) x5.2.2.2.1.1 false true))))))
 else
 False))
 else
 False)
 else
 K ((),x5.2.2.2.1.2) (0,0,()) x5.2.2.2.1.1 false true))))))
def Lq0w_0p:Lp:=⟨253,[.trim 253,.thin 1360,.trim 253],pT197,pH198,0⟩
def Yq0w (xq14:Tq14) (xq15:Tq15) (xq0q:Tq0q) (xq19:Tq19) (xq0m:Tq0m) (xq1g:Tq1g) (xq0z:Tq0z) (xq0o:Tq0o) (a0:ByteArray) (K:Q58→Q67→(List Eng.V)→Bool→Bool→Prop):Prop :=
 xq14 a0 (fun r1 r2 r3 =>
 lp (Lq0w_0 xq15 xq0q xq19 xq0m xq1g xq0z xq0o K) ((a0,(),(),(),(),(-1),0,()),([],false,0,()),(0,0,()),([],false,0,()),(r1,r2,r3),()))
def Xq0w:Tq0w:=Yq0w Xq14 Xq15 Xq0q Xq19 Xq0m Xq1g Xq0z Xq0o
def Jq0w (X:Tq0w):Inst:=mkI 8 pL0 .nil pL68 pH49 X
def Iq0w:Inst:=Jq0w Xq0w
theorem Eq0w (xq14:Tq14) (xq15:Tq15) (xq0q:Tq0q) (xq19:Tq19) (xq0m:Tq0m) (xq1g:Tq1g) (xq0z:Tq0z) (xq0o:Tq0o):EqF Tryz.prog 148 gives Tryz.f8 [Jq14 xq14,Jq15 xq15,Jq0q xq0q,Jq19 xq19,Jq0m xq0m,Jq1g xq1g,Jq0z xq0z,Jq0o xq0o] [Lq0w_0p] (Jq0w (Yq0w xq14 xq15 xq0q xq19 xq0m xq1g xq0z xq0o)):=fun x y K=>by kernel_rfl
theorem Iq0w_ok:InstOk Tryz.prog G.1 Iq0w:=iok (gives:=gives) [Lq0w_0p] (okCons Iq14_ok (okCons Iq15_ok (okCons Iq0q_ok (okCons Iq19_ok (okCons Iq0m_ok (okCons Iq1g_ok (okCons Iq0z_ok (okCons Iq0o_ok okNil)))))))) 148 follows Tryz.func8 (by kernel_rfl) (fun x=>by kernel_rfl) (Eq0w Xq14 Xq15 Xq0q Xq19 Xq0m Xq1g Xq0z Xq0o)
abbrev Tq0b:Type:=Int→(ByteArray→Prop)→Prop
def Yq0b (xq0b:Tq0b) (a0:Int) (K:ByteArray→Prop):Prop :=
 (lt (wu8 (w64 (48+Int.tmod a0 10))) fun v1 =>
 (if decide (a0 < 10) then
 K (Eng.packB [Eng.V.c (Value.int IntKind.u8 v1)])
 else
 xq0b (w64 (Int.tdiv a0 10)) (fun r2 =>
 (if (↑(ByteArray.size r2+ByteArray.size (Eng.packB [Eng.V.c (Value.int IntKind.u8 v1)])):Int) > 9223372036854775807 then
 False
 else
 (lt (r2++Eng.packB [Eng.V.c (Value.int IntKind.u8 v1)]) fun v3 =>
 K v3)))))
def Xq0a:Nat→Tq0b
 | 0=>fun a0 K=>False
 | n+1=>Yq0b (Xq0a n)
def Xq0b (a0:Int) (K:ByteArray→Prop):Prop:=∃ n,Xq0a n a0 K
def Jq0b (X:Tq0b):Inst:=mkI 38 pL2 .nil pL0 .nil X
def Iq0b:Inst:=Jq0b Xq0b
theorem Eq0b (xq0b:Tq0b):EqF Tryz.prog 18 gives Tryz.f38 [Jq0b xq0b] [] (Jq0b (Yq0b xq0b)):=fun x y K=>by kernel_rfl
theorem Iq0b_okn:∀ n,InstOk Tryz.prog G.1 (Jq0b (Xq0a n))
 | 0=>fun x y K h=>False.elim h
 | n+1=>iok (gives:=gives) [] (okCons (Iq0b_okn n) okNil) 18 follows Tryz.func38 (by kernel_rfl) (fun x=>by kernel_rfl) (Eq0b (Xq0a n))
theorem Iq0b_ok:InstOk Tryz.prog G.1 Iq0b:=fun x y K h=>Exists.elim (show ∃ n,(Jq0b (Xq0a n)).X x y K from h) fun n h=>Iq0b_okn n x y K h
abbrev Tq1h:Type:=Int→(Int→Bool→Prop)→Prop
def Yq1h (a0:Int) (K:Int→Bool→Prop):Prop :=
 (if decide (a0 < (-2208988800)) then
 K 0 false
 else
 (if decide (a0 > 9223372034645787007) then
 K 0 false
 else
 K (w64 (a0+2208988800)) true))
def Xq1h:Tq1h:=Yq1h
def Jq1h (X:Tq1h):Inst:=mkI 39 pL2 .nil pL21 .nil X
def Iq1h:Inst:=Jq1h Xq1h
theorem Eq1h:EqF Tryz.prog 12 gives Tryz.f39 [] [] (Jq1h (Yq1h)):=fun x y K=>by kernel_rfl
theorem Iq1h_ok:InstOk Tryz.prog G.1 Iq1h:=iok (gives:=gives) [] okNil 12 follows Tryz.func39 (by kernel_rfl) (fun x=>by kernel_rfl) (Eq1h)
abbrev Tq16:Type:=Int→Int→(ByteArray→Prop)→Prop
def Yq16 (xq1h:Tq1h) (xq0b:Tq0b) (a0:Int) (a1:Int) (K:ByteArray→Prop):Prop :=
 xq1h a0 (fun r2 r3 =>
 xq0b r2 (fun r4 =>
 (if (↑(ByteArray.size r4+(1:Nat)):Int) > 9223372036854775807 then
 False
 else
 xq0b a1 (fun r5 =>
 (if (↑(ByteArray.size (r4++ByteArray.mk #[(9:UInt8)])+ByteArray.size r5):Int) > 9223372036854775807 then
 False
 else
 (lt (r4++ByteArray.mk #[(9:UInt8)]++r5) fun v6 =>
 (if (↑(ByteArray.size v6+(1:Nat)):Int) > 9223372036854775807 then
 False
 else
 K (v6++ByteArray.mk #[(10:UInt8)]))))))))
def Xq16:Tq16:=Yq16 Xq1h Xq0b
def Jq16 (X:Tq16):Inst:=mkI 40 pL20 .nil pL0 .nil X
def Iq16:Inst:=Jq16 Xq16
theorem Eq16 (xq1h:Tq1h) (xq0b:Tq0b):EqF Tryz.prog 19 gives Tryz.f40 [Jq1h xq1h,Jq0b xq0b] [] (Jq16 (Yq16 xq1h xq0b)):=fun x y K=>by kernel_rfl
theorem Iq16_ok:InstOk Tryz.prog G.1 Iq16:=iok (gives:=gives) [] (okCons Iq1h_ok (okCons Iq0b_ok okNil)) 19 follows Tryz.func40 (by kernel_rfl) (fun x=>by kernel_rfl) (Eq16 Xq1h Xq0b)
abbrev Tq1f:Type:=Q37→(ByteArray→Prop)→Prop
def Lq1f_1 (K:ByteArray→Prop) (k1:Q199→Prop):(Q200→Prop)→Q200→Prop:=fun k3 x4 =>
 (if decide (x4.1.2.2.2.2.2.1≥0) then
 (if 0≤x4.1.2.2.2.2.1∧x4.1.2.2.2.2.1 < 5 then
 (Eng.asInt IntKind.u32 ([Eng.V.c (Value.int IntKind.u32 x4.2.1.1),Eng.V.c (Value.int IntKind.u32 x4.2.1.2.1),Eng.V.c (Value.int IntKind.u32 x4.2.1.2.2.1),Eng.V.c (Value.int IntKind.u32 x4.2.1.2.2.2.1),Eng.V.c (Value.int IntKind.u32 x4.2.1.2.2.2.2.1)][(0:Nat)+Int.toNat x4.1.2.2.2.2.1 * (1:Nat)]?) False fun n5 =>
 (if x4.1.2.2.2.2.2.1 < 0 then
 False
 else
 (lt (wu32 (wu32 (↑(BitVec.toNat (BitVec.ofInt (32:Nat) (Int.fdiv n5 (2 ^ Min.min (Int.toNat x4.1.2.2.2.2.2.1) (32:Nat))) &&& BitVec.ofInt (32:Nat) 15)):Int)+1)) fun v6 =>
 (if 0≤v6∧v6≤(↑(ByteArray.size x4.1.2.2.1):Int) then
 (if 0≤wu32 (↑(BitVec.toNat (BitVec.ofInt (32:Nat) (Int.fdiv n5 (2 ^ Min.min (Int.toNat x4.1.2.2.2.2.2.1) (32:Nat))) &&& BitVec.ofInt (32:Nat) 15)):Int)∧wu32 (↑(BitVec.toNat (BitVec.ofInt (32:Nat) (Int.fdiv n5 (2 ^ Min.min (Int.toNat x4.1.2.2.2.2.2.1) (32:Nat))) &&& BitVec.ofInt (32:Nat) 15)):Int)≤v6 then
 (lt (ByteArray.extract x4.1.2.2.1 (Int.toNat (wu32 (↑(BitVec.toNat (BitVec.ofInt (32:Nat) (Int.fdiv n5 (2 ^ Min.min (Int.toNat x4.1.2.2.2.2.2.1) (32:Nat))) &&& BitVec.ofInt (32:Nat) 15)):Int))) (Int.toNat v6)) fun v7 =>
 (if (↑(ByteArray.size x4.1.2.2.2.1+ByteArray.size v7):Int) > 9223372036854775807 then
 False
 else
 k3 (((),x4.1.2.1,x4.1.2.2.1,x4.1.2.2.2.1++v7,x4.1.2.2.2.2.1,w64 (x4.1.2.2.2.2.2.1 - 4),()),x4.2)))
 else
 False)
 else
 False))))
 else
 False)
 else
 k1 (((),x4.1.2.1,x4.1.2.2.1,x4.1.2.2.2.1,w64 (x4.1.2.2.2.2.1+1),()),x4.2))
def Lq1f_1p:Lp:=⟨126,[.trim 126],pT201,pH202,0⟩
def Lq1f_0 (K:ByteArray→Prop):(Q199→Prop)→Q199→Prop:=fun k1 x2 =>
 (if decide (x2.1.2.2.2.2.1 < 5) then
 (if decide (x2.1.2.2.2.2.1 > 0) then
 (if (↑(ByteArray.size x2.1.2.2.2.1+(1:Nat)):Int) > 9223372036854775807 then
 False
 else
 lp (Lq1f_1 K k1) (((),x2.1.2.1,x2.1.2.2.1,x2.1.2.2.2.1++ByteArray.mk #[(32:UInt8)],x2.1.2.2.2.2.1,28,()),x2.2))
 else
 lp (Lq1f_1 K k1) (((),x2.1.2.1,x2.1.2.2.1,x2.1.2.2.2.1,x2.1.2.2.2.2.1,28,()),x2.2))
 else
 K x2.1.2.2.2.1)
def Lq1f_0p:Lp:=⟨62,[.trim 62],pT203,pH202,0⟩
def Yq1f (a0:Q37) (K:ByteArray→Prop):Prop :=
 lp (Lq1f_0 K) (((),ByteArray.mk #[],ByteArray.mk #[(48:UInt8),(49:UInt8),(50:UInt8),(51:UInt8),(52:UInt8),(53:UInt8),(54:UInt8),(55:UInt8),(56:UInt8),(57:UInt8),(97:UInt8),(98:UInt8),(99:UInt8),(100:UInt8),(101:UInt8),(102:UInt8)],ByteArray.mk #[],0,()),a0,())
def Xq1f:Tq1f:=Yq1f
def Jq1f (X:Tq1f):Inst:=mkI 41 pL110 .nil pL0 .nil X
def Iq1f:Inst:=Jq1f Xq1f
theorem Eq1f:EqF Tryz.prog 34 gives Tryz.f41 [] [Lq1f_0p,Lq1f_1p] (Jq1f (Yq1f)):=fun x y K=>by kernel_rfl
theorem Iq1f_ok:InstOk Tryz.prog G.1 Iq1f:=iok (gives:=gives) [Lq1f_0p,Lq1f_1p] okNil 34 follows Tryz.func41 (by kernel_rfl) (fun x=>by kernel_rfl) (Eq1f)
abbrev Tq1b:Type:=Q53→Int→(ByteArray→Bool→Prop)→Prop
def Lq1b_0 (xq16:Tq16) (xq0z:Tq0z) (xq0o:Tq0o) (xq1f:Tq1f) (K:ByteArray→Bool→Prop):(Q204→Prop)→Q204→Prop:=fun k11 x12 =>
 (if decide (x12.1.2.2.2.2.2.1 < (↑(List.length x12.2.1.1):Int)) then
 (if 0≤x12.1.2.2.2.2.2.1∧x12.1.2.2.2.2.2.1 < (↑(List.length x12.2.1.1):Int) then
 (Eng.asInt IntKind.i64 (Eng.getC x12.2.1.1 (Int.toNat x12.1.2.2.2.2.2.1) (1:Nat)) False fun n13 =>
 (if 0≤x12.1.2.2.2.2.2.1∧x12.1.2.2.2.2.2.1 < (↑(List.length x12.2.1.1):Int) then
 (Eng.asBool (Eng.getC x12.2.1.1 (Int.toNat x12.1.2.2.2.2.2.1) (2:Nat)) False fun b14 =>
 (if b14 then
 K (ByteArray.mk #[]) false
 else
 (if decide (w64 (x12.1.2.2.2.2.1+n13) < 0) then
 K (ByteArray.mk #[]) false
 else
 (if 0≤x12.1.2.2.2.2.2.1∧x12.1.2.2.2.2.2.1 < (↑(List.length x12.2.1.1):Int) then
 (Eng.asInt IntKind.i64 (Eng.getC x12.2.1.1 (Int.toNat x12.1.2.2.2.2.2.1) (0:Nat)) False fun n15 =>
 (lt (w64 (86400 * w64 (n15+1))) fun v16 =>
 xq16 v16 (w64 (x12.1.2.2.2.2.1+n13)) (fun r17 =>
 (if (↑(ByteArray.size x12.1.2.2.2.1+ByteArray.size r17):Int) > 9223372036854775807 then
 False
 else
 k11 (((),x12.1.2.1,x12.1.2.2.1,x12.1.2.2.2.1++r17,w64 (x12.1.2.2.2.2.1+n13),w64 (x12.1.2.2.2.2.2.1+1),()),x12.2)))))
 else
 False))))
 else
 False))
 else
 False)
 else
 (if (↑(ByteArray.size x12.1.2.2.2.1+(3:Nat)):Int) > 9223372036854775807 then
 False
 else
 (lt (x12.1.2.2.2.1++ByteArray.mk #[(35:UInt8),(104:UInt8),(9:UInt8)]) fun v18 =>
 xq0z x12.1.2.2.2.1 (fun r19 =>
 xq0o r19 (fun r20 =>
 xq1f r20 (fun r21 =>
 (if (↑(ByteArray.size v18+ByteArray.size r21):Int) > 9223372036854775807 then
 False
 else
 (if (↑(ByteArray.size (v18++r21)+(1:Nat)):Int) > 9223372036854775807 then
 False
 else
 (lt (v18++r21++ByteArray.mk #[(10:UInt8)]) fun v22 =>
 K v22 true)))))))))
def Lq1b_0p:Lp:=⟨1652,[.trim 1652],pT205,pH206,0⟩
def Yq1b (xq0m:Tq0m) (xq0b:Tq0b) (xq1h:Tq1h) (xq16:Tq16) (xq0z:Tq0z) (xq0o:Tq0o) (xq1f:Tq1f) (a0:Q53) (a1:Int) (K:ByteArray→Bool→Prop):Prop :=
 xq0m a0 (fun r2 =>
 (if (!r2) then
 K (ByteArray.mk #[]) false
 else
 (if decide (a1 < 0) then
 K (ByteArray.mk #[]) false
 else
 xq0b a1 (fun r3 =>
 (if (↑((3:Nat)+ByteArray.size r3):Int) > 9223372036854775807 then
 False
 else
 (lt (ByteArray.mk #[(35:UInt8),(36:UInt8),(9:UInt8)]++r3) fun v4 =>
 (if (↑(ByteArray.size v4+(1:Nat)):Int) > 9223372036854775807 then
 False
 else
 (if a0.2.1 then
 xq1h a0.2.2.1 (fun r5 r6 =>
 (if (↑(ByteArray.size (v4++ByteArray.mk #[(10:UInt8)])+(3:Nat)):Int) > 9223372036854775807 then
 False
 else
 (lt (v4++ByteArray.mk #[(10:UInt8)]++ByteArray.mk #[(35:UInt8),(64:UInt8),(9:UInt8)]) fun v7 =>
 xq0b r5 (fun r8 =>
 (if (↑(ByteArray.size v7+ByteArray.size r8):Int) > 9223372036854775807 then
 False
 else
 (if (↑(ByteArray.size (v7++r8)+(1:Nat)):Int) > 9223372036854775807 then
 False
 else
 (lt (v7++r8++ByteArray.mk #[(10:UInt8)]) fun v9 =>
 xq16 63072000 10 (fun r10 =>
 (if (↑(ByteArray.size v9+ByteArray.size r10):Int) > 9223372036854775807 then
 False
 else
 lp (Lq1b_0 xq16 xq0z xq0o xq1f K) (((),ByteArray.mk #[],false,v9++r10,10,0,()),a0,()))))))))))
 else
 xq16 63072000 10 (fun r23 =>
 (if (↑(ByteArray.size (v4++ByteArray.mk #[(10:UInt8)])+ByteArray.size r23):Int) > 9223372036854775807 then
 False
 else
 (lt (v4++ByteArray.mk #[(10:UInt8)]++r23) fun v24 =>
 lp (Lq1b_0 xq16 xq0z xq0o xq1f K) (((),ByteArray.mk #[],false,v24,10,0,()),a0,()))))))))))))
def Xq1b:Tq1b:=Yq1b Xq0m Xq0b Xq1h Xq16 Xq0z Xq0o Xq1f
def Jq1b (X:Tq1b):Inst:=mkI 10 pL125 .nil pL126 .nil X
def Iq1b:Inst:=Jq1b Xq1b
theorem Eq1b (xq0m:Tq0m) (xq0b:Tq0b) (xq1h:Tq1h) (xq16:Tq16) (xq0z:Tq0z) (xq0o:Tq0o) (xq1f:Tq1f):EqF Tryz.prog 84 gives Tryz.f10 [Jq0m xq0m,Jq0b xq0b,Jq1h xq1h,Jq16 xq16,Jq0z xq0z,Jq0o xq0o,Jq1f xq1f] [Lq1b_0p] (Jq1b (Yq1b xq0m xq0b xq1h xq16 xq0z xq0o xq1f)):=fun x y K=>by kernel_rfl
theorem Iq1b_ok:InstOk Tryz.prog G.1 Iq1b:=iok (gives:=gives) [Lq1b_0p] (okCons Iq0m_ok (okCons Iq0b_ok (okCons Iq1h_ok (okCons Iq16_ok (okCons Iq0z_ok (okCons Iq0o_ok (okCons Iq1f_ok okNil))))))) 84 follows Tryz.func10 (by kernel_rfl) (fun x=>by kernel_rfl) (Eq1b Xq0m Xq0b Xq1h Xq16 Xq0z Xq0o Xq1f)
abbrev Tq09:Type:=ByteArray→Q53→Int→(Bool→Prop)→Prop
def Yq09 (xq0x:Tq0x) (xq1m:Tq1m) (xq23:Tq23) (xq0w:Tq0w) (xq2c:Tq2c) (xq1b:Tq1b) (xq10:Tq10) (xq26:Tq26) (xq0z:Tq0z) (a0:ByteArray) (a1:Q53) (a2:Int) (K:Bool→Prop):Prop :=
 xq0x (fun r3 =>
 xq1m a1 (fun r4 =>
 (if decide ((↑(ByteArray.size a0):Int) > 3000) then
 K r3
 else
 (if (!r4) then
 K r3
 else
 xq23 a0 (fun r5 r6 r7 r8 r9 =>
 xq0w a0 (fun r10 r11 r12 r13 r14 =>
 xq2c a1 a2 (fun r15 r16 =>
 xq1b a1 a2 (fun r17 r18 =>
 (if r3 then
 xq10 (r7,r5.2) (r12,r10.2) (fun r19 =>
 (if r19 then
 (if (r6.1 == r11.1 && (r6.2.1 == r11.2.1 && true)) then
 (if (ByteArray.toList r15 == ByteArray.toList r17) then
 (if (r16 == r18) then
 xq26 a0 (fun r20 =>
 xq0z a0 (fun r21 =>
 (lt (r20.1 == r21.1 && (r20.2.1 == r21.2.1 && (r20.2.2.1 == r21.2.2.1 && (r20.2.2.2.1 == r21.2.2.2.1 && (r20.2.2.2.2.1 == r21.2.2.2.2.1 && (r20.2.2.2.2.2.1 == r21.2.2.2.2.2.1 && (r20.2.2.2.2.2.2.1 == r21.2.2.2.2.2.2.1 && (r20.2.2.2.2.2.2.2.1 == r21.2.2.2.2.2.2.2.1 && (r20.2.2.2.2.2.2.2.2.1 == r21.2.2.2.2.2.2.2.2.1 && (r20.2.2.2.2.2.2.2.2.2.1 == r21.2.2.2.2.2.2.2.2.2.1 && (r20.2.2.2.2.2.2.2.2.2.2.1 == r21.2.2.2.2.2.2.2.2.2.2.1 && (r20.2.2.2.2.2.2.2.2.2.2.2.1 == r21.2.2.2.2.2.2.2.2.2.2.2.1 && (r20.2.2.2.2.2.2.2.2.2.2.2.2.1 == r21.2.2.2.2.2.2.2.2.2.2.2.2.1 && (r20.2.2.2.2.2.2.2.2.2.2.2.2.2.1 == r21.2.2.2.2.2.2.2.2.2.2.2.2.2.1 && (r20.2.2.2.2.2.2.2.2.2.2.2.2.2.2.1 == r21.2.2.2.2.2.2.2.2.2.2.2.2.2.2.1 && (r20.2.2.2.2.2.2.2.2.2.2.2.2.2.2.2.1 == r21.2.2.2.2.2.2.2.2.2.2.2.2.2.2.2.1 && (r20.2.2.2.2.2.2.2.2.2.2.2.2.2.2.2.2.1 == r21.2.2.2.2.2.2.2.2.2.2.2.2.2.2.2.2.1 && (r20.2.2.2.2.2.2.2.2.2.2.2.2.2.2.2.2.2.1 == r21.2.2.2.2.2.2.2.2.2.2.2.2.2.2.2.2.2.1 && (r20.2.2.2.2.2.2.2.2.2.2.2.2.2.2.2.2.2.2.1 == r21.2.2.2.2.2.2.2.2.2.2.2.2.2.2.2.2.2.2.1 && (r20.2.2.2.2.2.2.2.2.2.2.2.2.2.2.2.2.2.2.2.1 == r21.2.2.2.2.2.2.2.2.2.2.2.2.2.2.2.2.2.2.2.1 && true)))))))))))))))))))) fun v22 =>
 K v22)))
 else
 K false)
 else
 K false)
 else
 K false)
 else
 K false))
 else
 K false)))))))))
def Xq09:Tq09:=Yq09 Xq0x Xq1m Xq23 Xq0w Xq2c Xq1b Xq10 Xq26 Xq0z
def Jq09 (X:Tq09):Inst:=mkI 3 pL207 .nil pL9 .nil X
def Iq09:Inst:=Jq09 Xq09
theorem Eq09 (xq0x:Tq0x) (xq1m:Tq1m) (xq23:Tq23) (xq0w:Tq0w) (xq2c:Tq2c) (xq1b:Tq1b) (xq10:Tq10) (xq26:Tq26) (xq0z:Tq0z):EqF Tryz.prog 78 gives Tryz.f3 [Jq0x xq0x,Jq1m xq1m,Jq23 xq23,Jq0w xq0w,Jq2c xq2c,Jq1b xq1b,Jq10 xq10,Jq26 xq26,Jq0z xq0z] [] (Jq09 (Yq09 xq0x xq1m xq23 xq0w xq2c xq1b xq10 xq26 xq0z)):=fun x y K=>by kernel_rfl
theorem Iq09_ok:InstOk Tryz.prog G.1 Iq09:=iok (gives:=gives) [] (okCons Iq0x_ok (okCons Iq1m_ok (okCons Iq23_ok (okCons Iq0w_ok (okCons Iq2c_ok (okCons Iq1b_ok (okCons Iq10_ok (okCons Iq26_ok (okCons Iq0z_ok okNil))))))))) 78 follows Tryz.func3 (by kernel_rfl) (fun x=>by kernel_rfl) (Eq09 Xq0x Xq1m Xq23 Xq0w Xq2c Xq1b Xq10 Xq26 Xq0z)
end Go.Proofs.YtdjldmolhkkipaaGreatDoor
end
section
set_option linter.unusedVariables false
set_option linter.unusedSimpArgs false
namespace Go.Proofs.YtdjldmolhkkipaaGreatDoor
open Go Go.Proofs.YtdjldmolhkkipaaGreatDoor.Eng
abbrev akListTells0:AK:=.str
abbrev akListTells1:AK:=(.st (.cons (.sl (.st (.cons (.int .i64) (.cons (.int .i64) (.cons .bool .nil))))) (.cons .bool (.cons (.int .i64) .nil))))
abbrev akListTells2:AK:=(.int .i64)
def PureListTells:Prop:=∀ (a0:akListTells0.T) (h0:akListTells0.good a0) (a1:akListTells1.T) (h1:akListTells1.good a1) (a2:akListTells2.T) (h2:akListTells2.good a2),Xq09 (akListTells0.DV a0) (akListTells1.DV a1) (akListTells2.DV a2) (fun b=>b=true)
end Go.Proofs.YtdjldmolhkkipaaGreatDoor
end
section
set_option linter.unusedVariables false
set_option linter.unusedSimpArgs false
namespace Go.Proofs.YtdjldmolhkkipaaGreatDoor.Pl
open Go
def digsN:Nat→Nat→List UInt8
 | 0,_=>[]
 | k+1,u=>if u < 10 then [UInt8.ofNat (48+u)] else digsN k (u / 10)++[UInt8.ofNat (48+u % 10)]
theorem digsN_eq:∀ k u,u < 10 ^ (k+1)→digsN (k+1) u=Lib.decDigits u
 | 0,u,h=>by rw [Lib.decDigits,digsN,if_pos (by simpa using h),dif_pos (by simpa using h)]
 | k+1,u,h=>by
  rw [Lib.decDigits,digsN]
  by_cases h1:u < 10
  ·rw [if_pos h1,dif_pos h1]
  ·rw [if_neg h1,dif_neg h1,digsN_eq k (u / 10) (by rw [Nat.pow_succ] at h; omega)]
def itoaK (n:Int):List UInt8:=if n < 0 then 45 :: digsN 20 n.natAbs else digsN 20 n.toNat
theorem itoaK_eq (n:Int) (h0:-9223372036854775808≤n) (h1:n≤9223372036854775807):itoaK n=Lib.itoa n:=by
 unfold itoaK Lib.itoa
 split
 ·rw [digsN_eq 19 _ (by omega)]
 ·rw [digsN_eq 19 _ (by omega)]
def isDig (c:UInt8):Bool:=48≤c.toNat && c.toNat≤57
abbrev S (l:List UInt8):ByteArray:=⟨l.toArray⟩
theorem of_S (s:ByteArray):s=S s.data.toList:=by cases s; simp [S]
theorem S_size (l:List UInt8):(S l).size=l.length:=by simp [S,ByteArray.size]
theorem S_append (a b:List UInt8):S a++S b=S (a++b):=ByteArray.mk_append_mk a b
theorem S_toList (l:List UInt8):(S l).toList=l:=ByteArray.toList_mk l
theorem S_data (l:List UInt8):(S l).data.toList=l:=by simp [S]
theorem S_extract (l:List UInt8) (a b:Nat):(S l).extract a b=S ((l.drop a).take (b - a)):=by rw [Lib.extract_eq,S_data]
theorem u8_lt (c:UInt8):c.toNat < 256:=c.toNat_lt
theorem u8_eq {a b:UInt8} (h:a.toNat=b.toNat):a=b:=UInt8.toNat_inj.1 h
def dl (l:List UInt8):Nat:=(l.takeWhile isDig).length
def valL (l:List UInt8):Nat:=l.foldl (fun n c=>10 * n+(c.toNat - 48)) 0
end Go.Proofs.YtdjldmolhkkipaaGreatDoor.Pl
end
section
set_option linter.unusedVariables false
set_option linter.unusedSimpArgs false
namespace Go.Proofs.YtdjldmolhkkipaaGreatDoor.Pl
open Go
def pairL (m:Nat):List UInt8:=58 :: (digsN 20 (m / 10)++digsN 20 (m % 10))
theorem digsN_len:∀ k u,(digsN k u).length≤k
 | 0,_=>by simp [digsN]
 | k+1,u=>by
  rw [digsN]
  split
  ·simp
  ·have:=digsN_len k (u / 10); simp; omega
def clockB (a:Nat):List UInt8:=digsN 20 (a / 3600)++(if a % 60≠0 then pairL (a / 60 % 60)++pairL (a % 60) else if a / 60 % 60≠0 then pairL (a / 60 % 60) else [])
def clockL (sec:Int):List UInt8×Bool:=if -604799≤sec∧sec≤604799 then ((if sec < 0 then [45] else [])++clockB sec.natAbs,true) else ([],false)
end Go.Proofs.YtdjldmolhkkipaaGreatDoor.Pl
end
section
set_option linter.unusedVariables false
set_option linter.unusedSimpArgs false
namespace Go.Proofs.YtdjldmolhkkipaaGreatDoor.Pl
open Go
def leapY (y:Int):Bool:=decide (y % 4=0∧(y % 100≠0∨y % 400=0))
def fst (y:Int):Int:=365 * (y - 1)+(y - 1) / 4 - (y - 1) / 100+(y - 1) / 400 - 719162
def cum0 (m:Int):Int:=if m=1 then 0 else if m=2 then 31 else if m=3 then 59 else if m=4 then 90 else if m=5 then 120 else if m=6 then 151 else if m=7 then 181 else if m=8 then 212 else if m=9 then 243 else if m=10 then 273 else if m=11 then 304 else if m=12 then 334 else 365
def cum (y m:Int):Int:=cum0 m+if 2 < m∧leapY y=true then 1 else 0
def dim (y m:Int):Int:=if m=2 then (if leapY y=true then 29 else 28) else if m=4 then 30 else if m=6 then 30 else if m=9 then 30 else if m=11 then 30 else 31
def num (y m d:Int):Int:=fst y+cum y m+d - 1
def Vld (y m d:Int):Prop:=1≤y∧y≤9999∧1≤m∧m≤12∧1≤d∧d≤dim y m
theorem leapY_iff (y:Int):leapY y=true↔(y % 4=0∧(y % 100≠0∨y % 400=0)):=by unfold leapY; exact decide_eq_true_iff
theorem month_cases {m:Int} (h1:1≤m) (h2:m≤12):m=1∨m=2∨m=3∨m=4∨m=5∨m=6∨m=7∨m=8∨m=9∨m=10∨m=11∨m=12:=by omega
theorem dim_bd (y m:Int):28≤dim y m∧dim y m≤31:=by unfold dim; repeat' split <;> omega
theorem fst_succ (y:Int):fst (y+1)=fst y+365+if leapY y=true then 1 else 0:=by
 have:=leapY_iff y
 unfold fst
 by_cases h:leapY y=true
 ·rw [if_pos h]; have:=this.1 h; omega
 ·rw [if_neg h]
  have h':¬ (y % 4=0∧(y % 100≠0∨y % 400=0)):=fun z=>h (this.2 z)
  omega
theorem cum_succ (y m:Int) (h1:1≤m) (h2:m≤12):cum y m+dim y m=if m=12 then 365+(if leapY y=true then 1 else 0) else cum y (m+1):=by
 rcases month_cases h1 h2 with rfl | rfl | rfl | rfl | rfl | rfl | rfl | rfl | rfl | rfl | rfl | rfl <;>
  cases hl:leapY y <;> simp [cum,cum0,dim,hl]
theorem num_bd {y m d:Int} (h:Vld y m d):fst y≤num y m d∧num y m d < fst (y+1):=by
 obtain ⟨_,_,h1,h2,h3,h4⟩:=h
 rw [fst_succ]
 unfold num
 rcases month_cases h1 h2 with rfl | rfl | rfl | rfl | rfl | rfl | rfl | rfl | rfl | rfl | rfl | rfl <;>
  cases hl:leapY y <;> simp [cum,cum0,dim,hl] at h4 ⊢ <;> omega
theorem fst_bd {y:Int} (h1:1≤y) (h2:y≤9999):-719162≤fst y∧fst (y+1)≤2932897:=by unfold fst; omega
theorem fst_le {y z:Int} (h:y≤z):fst y≤fst z:=by unfold fst; omega
def sy (y m:Int):Int:=if m < 3 then y - 1 else y
def sm (m:Int):Int:=if m < 3 then m+12 else m
def numP (y m d:Int):Int:=146097 * (sy y m / 400)+365 * (sy y m % 400)+(sy y m % 400) / 4 - (sy y m % 400) / 100+((153 * (sm m - 3)+2) / 5+d - 1) - 719468
theorem numP_eq {y m d:Int} (h1:1≤m) (h2:m≤12):numP y m d=num y m d:=by
 have hl:=leapY_iff y
 have key:∀ b:Bool,leapY y=b→numP y m d=num y m d:=by
  intro b hb
  cases b with
  | true =>
   have hl':=hl.1 hb
   rcases month_cases h1 h2 with rfl | rfl | rfl | rfl | rfl | rfl | rfl | rfl | rfl | rfl | rfl | rfl <;>
    simp [numP,num,fst,cum,cum0,sy,sm,hb] <;> omega
  | false =>
   have hl':¬ (y % 4=0∧(y % 100≠0∨y % 400=0)):=fun z=>by rw [hl.2 z] at hb; cases hb
   rcases month_cases h1 h2 with rfl | rfl | rfl | rfl | rfl | rfl | rfl | rfl | rfl | rfl | rfl | rfl <;>
    simp [numP,num,fst,cum,cum0,sy,sm,hb] <;> omega
 exact key _ rfl
def st (b:Int):Int:=365 * b+b / 4 - b / 100
def gy (o:Int):Int:=o - o / 1460+o / 36524 - o / 146096
theorem gy_mono {a b:Int} (h0:0≤a) (h:a≤b) (hb:b≤146096):gy a≤gy b:=by unfold gy; omega
theorem ends:∀ n:Nat,n < 400→(gy (st n) / 365=n∧gy (st (n+1) - (if n=399 then 0 else 1)) / 365=n):=by decide +kernel
theorem year_of {o b:Int} (h0:0≤b) (h1:b < 400) (h2:st b≤o) (h3:o < st (b+1)∨(b=399∧o≤146096)):gy o / 365=b:=by
 obtain ⟨n,rfl⟩:=Int.eq_ofNat_of_zero_le h0
 obtain ⟨e1,e2⟩:=ends n (by omega)
 have hs0:0≤st n:=by unfold st; omega
 have hs1:st (n+1)≤146097:=by unfold st; omega
 by_cases hn:n=399
 ·subst hn
  have hm:st ((399:Nat)+1)=146096:=by decide
  rw [if_pos rfl,hm] at e2
  have ho:o≤146096:=by
   rcases h3 with h3 | h3
   ·have:((399:Nat):Int)+1=400:=rfl
    rw [this] at h3; have:st 400=146096:=by decide
    omega
   ·exact h3.2
  have g1:=gy_mono hs0 h2 ho
  have g2:=gy_mono (by omega:0≤o) ho (Int.le_refl _)
  simp only [Int.sub_zero] at e2
  omega
 ·rw [if_neg hn] at e2
  have ho:o≤st (n+1) - 1:=by
   rcases h3 with h3 | h3
   ·omega
   ·omega
  have g1:=gy_mono hs0 h2 (by omega)
  have g2:=gy_mono (by omega:0≤o) ho (by omega)
  omega
def era (n:Int):Int:=(n+719468) / 146097
def ofE (n:Int):Int:=(n+719468) % 146097
def yrs (n:Int):Int:=gy (ofE n) / 365
def doy (n:Int):Int:=ofE n - st (yrs n)
def mon (n:Int):Int:=(5 * doy n+2) / 153
def dayP (n:Int):Int:=doy n - (153 * mon n+2) / 5+1
def monP (n:Int):Int:=if mon n+3 > 12 then mon n+3 - 12 else mon n+3
def yearP (n:Int):Int:=400 * era n+(if mon n+3 > 12 then yrs n+1 else yrs n)
theorem date_num' {y m d:Int} (h:Vld y m d):(0≤doy (num y m d)∧doy (num y m d)≤365)∧yearP (num y m d)=y∧monP (num y m d)=m∧dayP (num y m d)=d:=by
 obtain ⟨a1,a2,h1,h2,h3,h4⟩:=h
 have hl:=leapY_iff y
 rw [← numP_eq h1 h2]
 have hb:0≤sy y m % 400∧sy y m % 400 < 400:=by omega
 have hdoy:0≤(153 * (sm m - 3)+2) / 5+d - 1∧st (sy y m % 400)+((153 * (sm m - 3)+2) / 5+d - 1)≤146096 ∧
   (st (sy y m % 400)+((153 * (sm m - 3)+2) / 5+d - 1) < st (sy y m % 400+1)∨sy y m % 400=399):=by
  unfold st
  cases hb':leapY y with
  | true =>
   have hl':=hl.1 hb'
   rcases month_cases h1 h2 with rfl | rfl | rfl | rfl | rfl | rfl | rfl | rfl | rfl | rfl | rfl | rfl <;>
    simp [sy,sm,dim,hb'] at h4 ⊢ <;> omega
  | false =>
   have hl':¬ (y % 4=0∧(y % 100≠0∨y % 400=0)):=fun z=>by rw [hl.2 z] at hb'; cases hb'
   rcases month_cases h1 h2 with rfl | rfl | rfl | rfl | rfl | rfl | rfl | rfl | rfl | rfl | rfl | rfl <;>
    simp [sy,sm,dim,hb'] at h4 ⊢ <;> omega
 have hst0:0≤st (sy y m % 400):=by unfold st; omega
 have hN:numP y m d+719468=146097 * (sy y m / 400)+(st (sy y m % 400)+((153 * (sm m - 3)+2) / 5+d - 1)):=by unfold numP st; omega
 have hera:era (numP y m d)=sy y m / 400:=by unfold era; omega
 have hof:ofE (numP y m d)=st (sy y m % 400)+((153 * (sm m - 3)+2) / 5+d - 1):=by unfold ofE; omega
 have hyrs:yrs (numP y m d)=sy y m % 400:=by
  unfold yrs
  rw [hof]
  refine year_of hb.1 hb.2 (by omega) ?_
  rcases hdoy.2.2 with h | h
  ·exact .inl h
  ·exact .inr ⟨h,hdoy.2.1⟩
 have hdy:doy (numP y m d)=(153 * (sm m - 3)+2) / 5+d - 1:=by unfold doy; rw [hof,hyrs]; omega
 have hdd:=dim_bd y m
 have hmon:mon (numP y m d)=sm m - 3:=by
  unfold mon
  rw [hdy]
  rcases month_cases h1 h2 with rfl | rfl | rfl | rfl | rfl | rfl | rfl | rfl | rfl | rfl | rfl | rfl <;>
   simp [sm,dim] at h4 ⊢ <;> omega
 refine ⟨?_,?_,?_,?_⟩
 ·rw [hdy]
  rcases month_cases h1 h2 with rfl | rfl | rfl | rfl | rfl | rfl | rfl | rfl | rfl | rfl | rfl | rfl <;>
   simp [sm,dim] at h4 ⊢ <;> omega
 ·unfold yearP
  rw [hera,hyrs,hmon]
  rcases month_cases h1 h2 with rfl | rfl | rfl | rfl | rfl | rfl | rfl | rfl | rfl | rfl | rfl | rfl <;>
   simp [sm,sy] <;> omega
 ·unfold monP
  rw [hmon]
  rcases month_cases h1 h2 with rfl | rfl | rfl | rfl | rfl | rfl | rfl | rfl | rfl | rfl | rfl | rfl <;> simp [sm]
 ·unfold dayP
  rw [hdy,hmon]
  omega
theorem date_num {y m d:Int} (h:Vld y m d):yearP (num y m d)=y∧monP (num y m d)=m∧dayP (num y m d)=d:=(date_num' h).2
theorem year_ex (n:Int) (h0:fst 1≤n):∀ k:Nat,n < fst (1+k)→∃ y:Int,1≤y∧y≤k∧fst y≤n∧n < fst (y+1)
 | 0,h=>by simp at h; omega
 | k+1,h=>by
  by_cases h1:n < fst (1+k)
  ·obtain ⟨y,a,b,c,d⟩:=year_ex n h0 k h1
   exact ⟨y,a,by omega,c,d⟩
  ·exact ⟨1+k,by omega,by omega,by omega,by have e:((k+1:Nat):Int)=(k:Int)+1:=rfl; rw [e] at h; rw [Int.add_assoc]; exact h⟩
theorem cum_mono (y m:Int) (h1:1≤m) (h2:m < 12):cum y m+28≤cum y (m+1):=by
 have:=cum_succ y m h1 (by omega)
 rw [if_neg (by omega)] at this
 have:=dim_bd y m
 omega
theorem month_ex (y r:Int) (h0:0≤r):∀ k:Nat,k < 12→r < cum y (1+k)→∃ m:Int,1≤m∧m≤k∧cum y m≤r∧r < cum y (m+1)
 | 0,_,h=>by simp [cum,cum0] at h; omega
 | k+1,hk,h=>by
  by_cases h1:r < cum y (1+k)
  ·obtain ⟨m,a,b,c,d⟩:=month_ex y r h0 k (by omega) h1
   exact ⟨m,a,by omega,c,d⟩
  ·exact ⟨1+k,by omega,by omega,by omega,by have e:((k+1:Nat):Int)=(k:Int)+1:=rfl; rw [e] at h; rw [Int.add_assoc]; exact h⟩
theorem date_ex {n:Int} (h0:-719162≤n) (h1:n≤2932896):∃ y m d,Vld y m d∧num y m d=n:=by
 obtain ⟨y,a,b,c,e⟩:=year_ex n (by
                     have:fst 1=-719162:=by decide
                     omega) 9999 (by
                             have:fst (1+(9999:Nat))=2932897:=by decide
                             omega)
 rw [fst_succ] at e
 by_cases h:n - fst y < cum y 12
 ·obtain ⟨m,a',b',c',e'⟩:=month_ex y (n - fst y) (by omega) 11 (by omega) h
  have hs:=cum_succ y m a' (by omega)
  rw [if_neg (by omega)] at hs
  exact ⟨y,m,n - fst y - cum y m+1,⟨a,by omega,a',by omega,by omega,by omega⟩,by unfold num; omega⟩
 ·have hs:=cum_succ y 12 (by omega) (by omega)
  rw [if_pos rfl] at hs
  exact ⟨y,12,n - fst y - cum y 12+1,⟨a,by omega,by omega,by omega,by omega,by omega⟩,by unfold num; omega⟩
theorem num_date {n:Int} (h0:-719162≤n) (h1:n≤2932896):Vld (yearP n) (monP n) (dayP n)∧num (yearP n) (monP n) (dayP n)=n:=by
 obtain ⟨y,m,d,hv,rfl⟩:=date_ex h0 h1
 obtain ⟨e1,e2,e3⟩:=date_num hv
 rw [e1,e2,e3]
 exact ⟨hv,rfl⟩
theorem doy_bd {n:Int} (h0:-719162≤n) (h1:n≤2932896):0≤doy n∧doy n≤365:=by
 obtain ⟨y,m,d,hv,rfl⟩:=date_ex h0 h1
 exact (date_num' hv).1
def wk (n:Int):Int:=(n+4) % 7
end Go.Proofs.YtdjldmolhkkipaaGreatDoor.Pl
end
section
set_option linter.unusedVariables false
set_option linter.unusedSimpArgs false
namespace Go.Proofs.YtdjldmolhkkipaaGreatDoor.Pl
open Go
def rightR (K A B C X:Int):Bool :=
 decide ((-604799≤X∧X≤604799)∧((K=0∧1≤A∧A≤12∧1≤B∧B≤5∧0≤C∧C≤6)∨(K=1∧1≤A∧A≤365∧B=0∧C=0)∨(K=2∧0≤A∧A≤365∧B=0∧C=0)))
def offW (A B C y:Int):Int:=let k:=(C - wk (num y A 1)+7) % 7+7 * (B - 1); if k≥dim y A then k - 7 else k
def ruleDay (K A B C y:Int):Int:=if K=2 then fst y+A else if K=1 then (if A≤59∨leapY y=false then fst y - 1+A else fst y+A) else num y A 1+offW A B C y
def headL (K A B C:Int):List UInt8:=if K=0 then 77 :: (itoaK A++46 :: (itoaK B++46 :: itoaK C)) else if K=1 then 74 :: itoaK A else itoaK A
def tailL (X:Int):List UInt8:=if X=7200 then [] else 47 :: (clockL X).1
def textL (K A B C X:Int):List UInt8×Bool:=if rightR K A B C X=true then (headL K A B C++tailL X,true) else ([],false)
theorem itoaK_len (n:Int):(itoaK n).length≤21:=by
 unfold itoaK
 split
 ·have:=digsN_len 20 n.natAbs; simp; omega
 ·have:=digsN_len 20 n.toNat; omega
end Go.Proofs.YtdjldmolhkkipaaGreatDoor.Pl
end
section
set_option linter.unusedVariables false
set_option linter.unusedSimpArgs false
namespace Go.Proofs.YtdjldmolhkkipaaGreatDoor.Pl
open Go
theorem valL_snoc (a:List UInt8) (c:UInt8):valL (a++[c])=10 * valL a+(c.toNat - 48):=by simp [valL,List.foldl_append]
theorem cum_one (y:Int):cum y 1=0:=by unfold cum cum0; simp
end Go.Proofs.YtdjldmolhkkipaaGreatDoor.Pl
end
section
set_option linter.unusedVariables false
set_option linter.unusedSimpArgs false
namespace Go.Proofs.YtdjldmolhkkipaaGreatDoor.Pl
open Go Go.Proofs.YtdjldmolhkkipaaGreatDoor.Eng
theorem ifT {c:Prop} [Decidable c] {a b:Prop} (h:c) (ha:a):if c then a else b:=by rw [if_pos h]; exact ha
theorem ifF {c:Prop} [Decidable c] {a b:Prop} (h:¬ c) (hb:b):if c then a else b:=by rw [if_neg h]; exact hb
theorem ifC {c:Prop} [Decidable c] {a b:Prop} (h1:c→a) (h2:¬ c→b):if c then a else b:=by
 by_cases h:c
 ·exact ifT h (h1 h)
 ·exact ifF h (h2 h)
theorem w64_in {n:Int} (h0:-9223372036854775808≤n) (h1:n≤9223372036854775807):w64 n=n:=by
 simp only [w64,IntKind.wrap,IntKind.bits,IntKind.signed]
 try simp
 try omega
theorem bAt_S (l:List UInt8) (i:Nat):Eng.bAt (S l) i=((l.getD i 0).toNat:Int):=rfl
theorem bAt0 (c:UInt8) (l:List UInt8):Eng.bAt (S (c :: l)) 0=(c.toNat:Int):=rfl
theorem lp_ind {α:Type} {F:(α→Prop)→α→Prop} (μ:α→Nat) (I:α→Prop) (h:∀ x,I x→∀ k:α→Prop,(∀ y,I y→μ y < μ x→k y)→F k x) {x:α} (hx:I x):Eng.lp F x:=by
 have key:∀ n x,I x→μ x < n→itrT F n x:=by
  intro n
  induction n with
  | zero=>intro x _ hn; omega
  | succ n ih=>intro x hx hn; exact h x hx _ fun y hy hlt=>ih y hy (by omega)
 exact ⟨μ x+1,key _ _ hx (Nat.lt_succ_self _)⟩
theorem lp_nat {α:Type} {F:(α→Prop)→α→Prop} (st:Nat→α) (N:Nat) (h:∀ n,n≤N→∀ k:α→Prop,(n < N→k (st (n+1)))→F k (st n)):Eng.lp F (st 0):=by
 have key:∀ d n,n+d=N→itrT F (d+1) (st n):=by
  intro d
  induction d with
  | zero=>intro n hn; exact h n (by omega) _ fun hlt=>by omega
  | succ d ih=>intro n hn; exact h n (by omega) _ fun hlt=>ih (n+1) (by omega)
 exact ⟨N+1,key N 0 (by omega)⟩
theorem lp_at {α:Type} {F:(α→Prop)→α→Prop} {x:α} (st:Nat→α) (N:Nat) (h0:x=st 0) (h:∀ n,n≤N→∀ k:α→Prop,(n < N→k (st (n+1)))→F k (st n)):Eng.lp F x:=by
 rw [h0]; exact lp_nat st N h
def nl (q:UInt8→Bool) (l:List UInt8):Nat:=(l.takeWhile fun c=>!q c).length
theorem nl_le (q:UInt8→Bool) (l:List UInt8):nl q l≤l.length:=by unfold nl; exact (List.takeWhile_sublist _).length_le
theorem nl_cons (q:UInt8→Bool) (c:UInt8) (l:List UInt8):nl q (c :: l)=if q c=true then 0 else nl q l+1:=by
 unfold nl; rw [List.takeWhile_cons]; cases q c <;> simp
theorem nl_of (q:UInt8→Bool):∀ (l:List UInt8) (k:Nat),k≤l.length→(∀ c∈l.take k,q c=false)→(∀ h:k < l.length,q l[k]=true)→nl q l=k
 | [],k,hk,_,_=>by simp at hk; subst hk; rfl
 | c :: l,0,_,_,h=>by
  have h0:q c=true:=h (by simp)
  rw [nl_cons,if_pos h0]
 | c :: l,k+1,hk,h1,h2=>by
  have hc:=h1 c (by simp)
  rw [nl_cons,if_neg (by rw [hc]; simp),nl_of q l k (by simpa using hk) (fun d hd=>h1 d (by rw [List.take_succ_cons]; exact .tail _ hd)) (fun h=>by have:=h2 (by simpa using h); simpa using this)]
theorem nl_spec (q:UInt8→Bool):∀ (l:List UInt8) (j:Nat) (h:j < l.length),(j < nl q l→q l[j]=false)∧(j=nl q l→q l[j]=true)
 | [],j,h=>by simp at h
 | c :: l,0,_=>by
  rw [nl_cons]
  cases hq:q c
  ·exact ⟨fun _=>hq,fun h=>by simp at h⟩
  ·exact ⟨fun h=>by simp at h,fun _=>hq⟩
 | c :: l,j+1,h=>by
  have ih:=nl_spec q l j (by simpa using h)
  rw [nl_cons]
  cases hq:q c
  ·simp only [Bool.false_eq_true,if_false,List.getElem_cons_succ]
   exact ⟨fun h=>ih.1 (by omega),fun h=>ih.2 (by omega)⟩
  ·exact ⟨fun h=>by simp at h,fun h=>by simp at h⟩
theorem indexByte_nl (l:List UInt8) (c:UInt8):Lib.indexByte l c=if nl (· == c) l < l.length then (nl (· == c) l:Int) else -1:=by
 induction l with
 | nil=>rfl
 | cons b l ih =>
  rw [Lib.indexByte,nl_cons,ih]
  cases hb:(b == c)
  ·simp only [Bool.false_eq_true,if_false,List.length_cons]
   by_cases h:nl (· == c) l < l.length
   ·rw [if_pos h,if_neg (by simp),if_pos (by omega)]; omega
   ·rw [if_neg h,if_pos (by simp),if_neg (by omega)]
  ·simp
theorem decode_lo (l:List UInt8) (pos:Nat) (h:pos < l.length) (ha:l[pos].toNat < 128):Utf8.decode (S l) pos=(l[pos].toNat,1):=decode_ascii (S l) pos (by rw [S_size]; exact h) ha
theorem decode_hi (l:List UInt8) (pos:Nat) (h:pos < l.length) (ha:128≤l[pos].toNat):128≤(Utf8.decode (S l) pos).1∧1≤(Utf8.decode (S l) pos).2:=decode_high (S l) pos (by rw [S_size]; exact h) ha
end Go.Proofs.YtdjldmolhkkipaaGreatDoor.Pl
end
section
set_option linter.unusedVariables false
set_option linter.unusedSimpArgs false
namespace Go.Proofs.YtdjldmolhkkipaaGreatDoor.Pl
open Go Go.Proofs.YtdjldmolhkkipaaGreatDoor.Eng
abbrev W32:=BitVec 32
abbrev wi (x:W32):Int:=(x.toNat:Int)
abbrev bi (c:UInt8):Int:=(c.toNat:Int)
abbrev cw (x:W32):V:=.c (.int .u32 (wi x))
abbrev cb (c:UInt8):V:=.c (.int .u8 (bi c))
theorem wu32_in {n:Int} (h0:0≤n) (h1:n≤4294967295):wu32 n=n:=by
 simp only [wu32,IntKind.wrap,IntKind.bits,IntKind.signed]
 try simp
 try omega
theorem wu8_in {n:Int} (h0:0≤n) (h1:n≤255):wu8 n=n:=by
 simp only [wu8,IntKind.wrap,IntKind.bits,IntKind.signed]
 try simp
 try omega
theorem wu64_in {n:Int} (h0:0≤n) (h1:n≤18446744073709551615):wu64 n=n:=by
 simp only [wu64,IntKind.wrap,IntKind.bits,IntKind.signed]
 try simp
 try omega
theorem wu32_nat (n:Nat):wu32 (n:Int)=wi (BitVec.ofNat 32 n):=by
 simp only [wu32,wi,IntKind.wrap,IntKind.bits,IntKind.signed,BitVec.toNat_ofNat]
 simp
theorem wi_lt (x:W32):x.toNat < 4294967296:=x.isLt
theorem bi_lt (c:UInt8):c.toNat < 256:=c.toNat_lt
theorem wu32_wi (x:W32):wu32 (x.toNat:Int)=wi x:=wu32_in (by omega) (by have:=wi_lt x; omega)
theorem ofInt_wi (x:W32):BitVec.ofInt 32 (wi x)=x:=by
 apply BitVec.eq_of_toNat_eq
 rw [BitVec.toNat_ofInt]
 have:=wi_lt x
 have e:((2 ^ 32:Nat):Int)=4294967296:=by decide
 rw [e]
 unfold wi
 omega
theorem wi_add (x y:W32):wu32 (wi x+wi y)=wi (x+y):=by
 rw [show wi x+wi y=((x.toNat+y.toNat:Nat):Int) by simp [wi],wu32_nat]
 congr 1
theorem wi_shl (x:W32) (k:Nat):wu32 (wi x * 2 ^ k)=wi (x <<< k):=by
 rw [show wi x * 2 ^ k=((x.toNat * 2 ^ k:Nat):Int) by simp [wi],wu32_nat]
 congr 1
 apply BitVec.eq_of_toNat_eq
 simp [BitVec.toNat_shiftLeft,Nat.shiftLeft_eq]
theorem wi_shr (x:W32) (k:Nat):Int.fdiv (wi x) (2 ^ k)=wi (x >>> k):=by
 rw [Int.fdiv_eq_ediv_of_nonneg _ (by exact_mod_cast Nat.zero_le _)]
 unfold wi
 rw [BitVec.toNat_ushiftRight,Nat.shiftRight_eq_div_pow]
 exact_mod_cast rfl
def rotl (x:W32) (k:Nat):W32:=x <<< k ||| x >>> (32 - k)
theorem wi_lit (n:Nat) (h:n < 4294967296):(n:Int)=wi (BitVec.ofNat 32 n):=by
 unfold wi
 rw [BitVec.toNat_ofNat,Nat.mod_eq_of_lt (by omega)]
theorem wu32_bi (c:UInt8):wu32 (bi c)=wi (BitVec.ofNat 32 c.toNat):=by rw [wu32_nat]
def sched:Nat→List W32→List W32
 | 0,l=>l
 | n+1,l=>sched n (l++[rotl (l.getD (l.length - 3) 0 ^^^ l.getD (l.length - 8) 0 ^^^ l.getD (l.length - 14) 0 ^^^ l.getD (l.length - 16) 0) 1])
def next (l:List W32):List W32:=l++[rotl (l.getD (l.length - 3) 0 ^^^ l.getD (l.length - 8) 0 ^^^ l.getD (l.length - 14) 0 ^^^ l.getD (l.length - 16) 0) 1]
def word (b:List UInt8) (i:Nat):W32:=b.foldl (fun w c=>w <<< 8 ||| BitVec.ofNat 32 c.toNat) 0
def wordAt (b:List UInt8) (i:Nat):W32:=word ((b.drop (4 * i)).take 4) 0
def first (b:List UInt8) (n:Nat):List W32:=(List.range n).map (wordAt b)
def wordsN (b:List UInt8):Nat→List W32
 | 0=>first b 16
 | n+1=>next (wordsN b n)
theorem wordsN_len (b:List UInt8) (n:Nat):(wordsN b n).length=16+n:=by
 induction n with
 | zero=>simp [wordsN,first]
 | succ n ih=>simp [wordsN,next,ih]; omega
structure St5 where
 a:W32
 b:W32
 c:W32
 d:W32
 e:W32
def fAt (i:Nat) (b c d:W32):W32:=if i < 20 then d ^^^ (b &&& (c ^^^ d)) else if i < 40 then b ^^^ c ^^^ d else if i < 60 then (b &&& c) ||| (d &&& (b ||| c)) else b ^^^ c ^^^ d
def kAt (i:Nat):W32:=if i < 20 then 1518500249#32 else if i < 40 then 1859775393#32 else if i < 60 then 2400959708#32 else 3395469782#32
def stepS (s:St5) (f k w:W32):St5:=⟨rotl s.a 5+f+s.e+k+w,s.a,rotl s.b 30,s.c,s.d⟩
def roundsN (ws:List W32) (s:St5):Nat→St5
 | 0=>s
 | n+1=>let t:=roundsN ws s n; stepS t (fAt n t.b t.c t.d) (kAt n) (ws.getD n 0)
def addS (s t:St5):St5:=⟨s.a+t.a,s.b+t.b,s.c+t.c,s.d+t.d,s.e+t.e⟩
def blockL (s:St5) (b:List UInt8):St5:=addS (roundsN (wordsN b 64) s 80) s
def blocksN (l:List UInt8) (s:St5):Nat→St5
 | 0=>s
 | n+1=>blockL (blocksN l s n) ((l.drop (64 * n)).take 64)
def be64 (n:Nat):List UInt8:=(List.range 8).map fun i=>UInt8.ofNat (n / 2 ^ (8 * (7 - i)))
def padL (m:List UInt8):List UInt8:=m++[128]++List.replicate ((184 - (m.length+1) % 64) % 64) 0++be64 (8 * m.length)
def s0:St5:=⟨1732584193#32,4023233417#32,2562383102#32,271733878#32,3285377520#32⟩
def St5.at (s:St5) (i:Nat):W32:=match i with | 0=>s.a | 1=>s.b | 2=>s.c | 3=>s.d | _=>s.e
def sumS (m:List UInt8):St5:=blocksN (padL m) s0 ((padL m).length / 64)
def digest (m:List UInt8) (i:Nat):UInt8:=UInt8.ofNat (((sumS m).at (i / 4)).toNat / 2 ^ (24 - 8 * (i % 4)))
theorem padL_len (m:List UInt8):(padL m).length % 64=0:=by
 simp [padL,be64]
 omega
def wordsOf (d:Nat→UInt8) (j:Nat):W32:=word [d (4 * j),d (4 * j+1),d (4 * j+2),d (4 * j+3)] 0
def hexC (n:Nat):UInt8:=[48,49,50,51,52,53,54,55,56,57,97,98,99,100,101,102].getD n 0
def hexN (d:Nat→UInt8):Nat→List UInt8
 | 0=>[]
 | n+1=>hexN d n++[hexC ((d n).toNat / 16),hexC ((d n).toNat % 16)]
def agL (k:IntKind) (n:Nat) (f:Nat→Int):List V:=[.agg ((List.range n).map fun i=>.c (.int k (f i)))]
def updF (f:Nat→Int) (i:Nat) (x:Int):Nat→Int:=fun j=>if j=i then x else f j
theorem agL_get {k:IntKind} {n:Nat} {f:Nat→Int} {i:Nat} (h:i < n):getC (agL k n f) 0 i=some (.c (.int k (f i))):=by
 simp [agL,getC,V.cells,h]
theorem asI {k:IntKind} {n:Nat} {f:Nat→Int} {i:Nat} (h:i < n) {F:Prop} {K:Int→Prop} (hk:K (f i)):Eng.asInt k (getC (agL k n f) 0 i) F K:=by
 rw [agL_get h]
 simpa [Eng.asInt] using hk
theorem asL {k:IntKind} {n:Nat} {f:Nat→Int} {i:Nat} (h:i < n) {F:Prop} {K:Int→Prop} (hk:K (f i)):Eng.asInt k (((List.range n).map fun i=>V.c (.int k (f i)))[i]?) F K:=by
 simp [Eng.asInt,h,hk]
theorem agL_set {k:IntKind} {n:Nat} {f:Nat→Int} {i:Nat} {x:Int} (h:i < n):List.set (agL k n f) 0 (setE (List.getD (agL k n f) 0 V.bad) i [.c (.int k x)])=agL k n (updF f i x):=by
 simp only [agL,List.getD_cons_zero,setE,setL,List.set_cons_zero]
 congr 2
 apply List.ext_getElem?
 intro j
 rw [List.getElem?_set]
 by_cases hj:j < n
 ·by_cases e:i=j
  ·subst e; simp [updF,h]
  ·simp [e,hj,updF,Ne.symm e]
 ·have:¬ i=j:=by omega
  simp [this,hj]
theorem agL_len {k:IntKind} {n:Nat} {f:Nat→Int}:(agL k n f).length=1:=rfl
theorem agL_congr {k:IntKind} {n:Nat} {f g:Nat→Int} (h:∀ i,i < n→f i=g i):agL k n f=agL k n g:=by
 unfold agL
 congr 2
 apply List.map_congr_left
 intro i hi
 rw [h i (List.mem_range.1 hi)]
end Go.Proofs.YtdjldmolhkkipaaGreatDoor.Pl
end
section
set_option linter.unusedVariables false
set_option linter.unusedSimpArgs false
namespace Go.Proofs.YtdjldmolhkkipaaGreatDoor.Pl
open Go Go.Proofs.YtdjldmolhkkipaaGreatDoor.Eng
def splN (c:UInt8):Nat→List UInt8→List (List UInt8)
 | 0,l=>[l]
 | k+1,l=>if nl (· == c) l < l.length then l.take (nl (· == c) l) :: splN c k (l.drop (nl (· == c) l+1)) else [l]
def spl (c:UInt8):List UInt8→List (List UInt8)
 | []=>[[]]
 | b :: r=>if b == c then [] :: spl c r else match spl c r with
  | []=>[[b]]
  | h :: t=>(b :: h) :: t
theorem spl_ne (c:UInt8) (l:List UInt8):spl c l≠[]:=by
 cases l with
 | nil=>simp [spl]
 | cons b r =>
  rw [spl]; split
  ·simp
  ·split <;> simp
theorem spl_eq (c:UInt8):∀ l,spl c l=if nl (· == c) l < l.length then l.take (nl (· == c) l) :: spl c (l.drop (nl (· == c) l+1)) else [l]
 | []=>rfl
 | b :: r=>by
  rw [spl,nl_cons]
  cases hb:b == c
  ·simp only [Bool.false_eq_true,if_false,List.length_cons]
   rw [spl_eq c r]
   by_cases h:nl (· == c) r < r.length
   ·simp only [if_pos h]; rw [if_pos (by omega)]; simp
   ·simp only [if_neg h]; rw [if_neg (by omega)]
  ·simp
theorem count_nl (c:UInt8) (l:List UInt8) (h:nl (· == c) l < l.length):l.count c=(l.drop (nl (· == c) l+1)).count c+1:=by
 induction l with
 | nil=>simp at h
 | cons b r ih =>
  rw [nl_cons] at h ⊢
  cases hb:b == c
  ·rw [hb] at h
   simp only [Bool.false_eq_true,if_false,List.length_cons] at h ⊢
   rw [List.count_cons,hb,ih (by omega)]; simp
  ·rw [List.count_cons,hb]; simp
theorem splN_spl (c:UInt8):∀ (k:Nat) (l:List UInt8),l.count c≤k→splN c k l=spl c l
 | 0,l,h=>by
  rw [splN,spl_eq,if_neg]
  intro hh
  have:=count_nl c l hh
  omega
 | k+1,l,h=>by
  rw [splN,spl_eq]
  split
  ·rename_i hh
   have:=count_nl c l hh
   rw [splN_spl c k _ (by omega)]
  ·rfl
theorem spl_app (c:UInt8):∀ (a r:List UInt8),c∉a→spl c (a++c :: r)=a :: spl c r
 | [],r,_=>by rw [List.nil_append,spl]; simp
 | b :: a,r,h=>by
  have hb:(b == c)=false:=by
   simp only [beq_eq_false_iff_ne]; exact fun e=>h (e ▸ .head _)
  rw [List.cons_append,spl,hb,spl_app c a r (fun hh=>h (.tail _ hh))]; simp
theorem splN_len (c:UInt8):∀ (k:Nat) (l:List UInt8),(splN c k l).length≤k+1∧1≤(splN c k l).length∧∀ w∈splN c k l,w.length≤l.length
 | 0,l=>by simp [splN]
 | k+1,l=>by
  rw [splN]
  split
  ·obtain ⟨h1,h2,h3⟩:=splN_len c k (l.drop (nl (· == c) l+1))
   refine ⟨by simp; omega,by simp,fun w hw=>?_⟩
   cases hw with
   | head=>simp; omega
   | tail _ hw=>have:=h3 w hw; simp at this; omega
  ·refine ⟨by simp,by simp,fun w hw=>?_⟩
   simp at hw; rw [hw]; exact Nat.le_refl _
theorem spl_len (c:UInt8) (l:List UInt8):(spl c l).length≤l.length+1∧1≤(spl c l).length∧∀ w∈spl c l,w.length≤l.length:=by
 rw [← splN_spl c l.length l List.count_le_length]
 exact splN_len c _ l
def trimR (l:List UInt8):List UInt8:=if l.getLast? = some 13 then l.dropLast else l
def linesL (l:List UInt8):List (List UInt8):=(if (spl 10 l).getLast? = some [] then (spl 10 l).dropLast else spl 10 l).map trimR
theorem trimR_len (l:List UInt8):(trimR l).length≤l.length:=by unfold trimR; split <;> simp
theorem linesL_len (l:List UInt8):(linesL l).length≤l.length+1∧∀ w∈linesL l,w.length≤l.length:=by
 obtain ⟨h1,h2,h3⟩:=spl_len 10 l
 unfold linesL
 constructor
 ·split <;> simp <;> omega
 ·intro w hw
  obtain ⟨v,hv,rfl⟩:=List.mem_map.1 hw
  have hv':v∈spl 10 l:=by
   split at hv
   ·exact (List.dropLast_sublist _).subset hv
   ·exact hv
  have:=trimR_len v
  have:=h3 v hv'
  omega
def blankB (c:UInt8):Bool:=c == 32 || c == 9
def wd:List UInt8→List UInt8→List (List UInt8)
 | cur,[]=>if cur=[] then [] else [cur]
 | cur,c :: r=>if blankB c=true then (if cur=[] then wd [] r else cur :: wd [] r) else wd (cur++[c]) r
def wordsL (l:List UInt8):List (List UInt8):=wd [] l
theorem wd_blank (l:List UInt8):∀ cur,wd cur (l++[32])=wd cur l:=by
 induction l with
 | nil=>intro cur; simp [wd,blankB]
 | cons c r ih =>
  intro cur
  rw [List.cons_append,wd,wd]
  simp only [ih]
theorem wd_skip:∀ (a cur r:List UInt8),(∀ c∈a,blankB c=false)→wd cur (a++r)=wd (cur++a) r
 | [],cur,r,_=>by simp
 | c :: a,cur,r,h=>by
  rw [List.cons_append,wd,if_neg (by rw [h c (.head _)]; simp),wd_skip a _ r (fun d hd=>h d (.tail _ hd))]; simp
theorem wd_len:∀ (l cur:List UInt8),(wd cur l).length≤l.length+1∧∀ w∈wd cur l,w.length≤cur.length+l.length∧w≠[]
 | [],cur=>by
  rw [wd]; split
  ·simp
  ·rename_i h; simp [h]
 | c :: r,cur=>by
  rw [wd]
  split
  ·split
   ·obtain ⟨h1,h2⟩:=wd_len r []
    refine ⟨by simp; omega,fun w hw=>⟨by have:=(h2 w hw).1; simp at this ⊢; omega,(h2 w hw).2⟩⟩
   ·rename_i hc
    obtain ⟨h1,h2⟩:=wd_len r []
    refine ⟨by simp; omega,fun w hw=>?_⟩
    cases hw with
    | head=>exact ⟨by simp,hc⟩
    | tail _ hw=>exact ⟨by have:=(h2 w hw).1; simp at this ⊢; omega,(h2 w hw).2⟩
  ·obtain ⟨h1,h2⟩:=wd_len r (cur++[c])
   exact ⟨by simp; omega,fun w hw=>⟨by have:=(h2 w hw).1; simp at this ⊢; omega,(h2 w hw).2⟩⟩
def numL (l:List UInt8):Int×Bool:=if l≠[]∧l.all isDig=true∧valL l≤9223372036854775807 then ((valL l:Int),true) else (0,false)
def preB (n f:List UInt8):Bool:=n.take f.length == f
def two (l:List UInt8):Bool:=(numL l).2 && decide (l.length≤2)
abbrev LR:=Int×Int×Bool
structure Tb where
 ls:List LR
 has:Bool
 ex:Int
deriving DecidableEq
def eLR (l:LR):V:=.agg [.c (.int .i64 l.1),.c (.int .i64 l.2.1),.c (.bool l.2.2)]
def endD (n:Int):Bool:=decide (-719162≤n∧n≤2932896) && (dayP n == dim (yearP n) (monP n))
def wrongL (k:Nat) (l:LR) (ahead:Int):Int :=
 if 200≤k then 8 else if l.1 < 730∨2932896≤l.1 then 9 else if endD l.1=false then 5 else if l.2.1≠1∧l.2.1≠-1 then 6 else if l.1≤ahead then 4 else 0
def checkG:Nat→Int→List LR→Nat×Int×Int
 | k,ahead,[]=>(k,0,ahead)
 | k,ahead,l :: r=>if wrongL k l ahead≠0 then (k,wrongL k l ahead,ahead) else checkG (k+1) l.1 r
def expB (has:Bool) (ex ahead:Int):Int :=
 if has=true then (if ex < (if 63072000 > (ahead+1) * 86400 then 63072000 else (ahead+1) * 86400)∨253402300799 < ex then 9 else 0) else if ex≠0 then 9 else 0
def checkT (t:Tb):Nat×Int:=if (checkG 0 729 t.ls).2.1≠0 then ((checkG 0 729 t.ls).1,(checkG 0 729 t.ls).2.1) else (t.ls.length,expB t.has t.ex (checkG 0 729 t.ls).2.2)
def rightT (t:Tb):Bool:=(checkT t).2 == 0
def addT (t:Tb) (l:LR):Tb×Int:=if (checkT ⟨t.ls++[l],t.has,t.ex⟩).2≠0 then (t,(checkT ⟨t.ls++[l],t.has,t.ex⟩).2) else (⟨t.ls++[l],t.has,t.ex⟩,0)
structure Row where
 kind:Int
 y:Int
 m:Int
 d:Int
 sec:Int
 sign:List UInt8
 roll:Bool
structure Src where
 ls:List LR
 at':Int
 til:Int
def bareL (l:List UInt8):List UInt8:=l.take (nl (· == 35) l)
def tb0:Tb:=⟨[],false,0⟩
theorem decode_cont (l:List UInt8) (pos:Nat) (h:pos < l.length) (ha:128≤l[pos].toNat) :
  128≤(Utf8.decode (S l) pos).1∧1≤(Utf8.decode (S l) pos).2∧pos+(Utf8.decode (S l) pos).2≤l.length∧∀ c∈(l.drop pos).take (Utf8.decode (S l) pos).2,128≤c.toNat:=by
 obtain ⟨h1,h2⟩:=decode_hi l pos h ha
 refine ⟨h1,h2,?_⟩
 have g:∀ k (hk:pos+k < l.length),((S l).get! (pos+k)).toNat=l[pos+k].toNat:=fun k hk=>by
  simp [S,ByteArray.get!,hk]
 have one:pos+1≤l.length∧∀ c∈(l.drop pos).take 1,128≤c.toNat:=by
  refine ⟨h,fun c hc=>?_⟩
  rw [List.drop_eq_getElem_cons h,List.take_succ_cons,List.take_zero,List.mem_singleton] at hc
  rw [hc]; exact ha
 have more:∀ w,1≤w→(∀ k,1≤k→k < w→pos+k < l.length∧((S l).get! (pos+k)).toNat / 64=2)→pos+w≤l.length∧∀ c∈(l.drop pos).take w,128≤c.toNat:=fun w hw hk=>by
  have hl:pos+w≤l.length:=by
   by_cases e:w=1
   ·omega
   ·have:=(hk (w - 1) (by omega) (by omega)).1; omega
  refine ⟨hl,fun c hc=>?_⟩
  obtain ⟨i,hi⟩:=List.getElem?_of_mem hc
  rw [List.getElem?_take] at hi
  split at hi
  ·rename_i hiw
   rw [List.getElem?_drop,List.getElem?_eq_getElem (by omega)] at hi
   cases hi
   by_cases e:i=0
   ·subst e; exact ha
   ·obtain ⟨q1,q2⟩:=hk i (by omega) hiw
    rw [g i q1] at q2
    omega
  ·cases hi
 unfold Utf8.decode
 simp only [S_size]
 have c1:∀ k,(decide (pos+k < l.length) && ((S l).get! (pos+k)).toNat / 64 == 2)=true→pos+k < l.length∧((S l).get! (pos+k)).toNat / 64=2:=fun k hk=>by
  simpa using hk
 split
 ·exact one
 ·split
  ·rename_i hc
   simp only [Bool.and_eq_true] at hc
   split
   ·exact more 2 (by omega) fun k k1 k2=>by
     have:k=1:=by omega
     subst this; exact c1 1 (by simp only [Bool.and_eq_true]; exact hc.2)
   ·exact one
  ·split
   ·rename_i hc
    simp only [Bool.and_eq_true] at hc
    split
    ·exact more 3 (by omega) fun k k1 k2=>by
      rcases (show k=1∨k=2 by omega) with rfl | rfl
      ·exact c1 1 (by simp only [Bool.and_eq_true]; exact hc.1.2)
      ·exact c1 2 (by simp only [Bool.and_eq_true]; exact hc.2)
    ·exact one
   ·split
    ·rename_i hc
     simp only [Bool.and_eq_true] at hc
     split
     ·exact more 4 (by omega) fun k k1 k2=>by
       rcases (show k=1∨k=2∨k=3 by omega) with rfl | rfl | rfl
       ·exact c1 1 (by simp only [Bool.and_eq_true]; exact hc.1.1.2)
       ·exact c1 2 (by simp only [Bool.and_eq_true]; exact hc.1.2)
       ·exact c1 3 (by simp only [Bool.and_eq_true]; exact hc.2)
     ·exact one
    ·exact one
def WV (ws:List (List UInt8)):List V:=ws.map fun w=>.c (.string (S w))
theorem WV_len (ws:List (List UInt8)):(WV ws).length=ws.length:=by simp [WV]
theorem WV_app (a b:List (List UInt8)):WV (a++b)=WV a++WV b:=by simp [WV]
theorem asW {ws:List (List UInt8)} {i:Nat} (h:i < ws.length) {F:Prop} {K:ByteArray→Prop} (hk:K (S ws[i])):Eng.asStr (getC (WV ws) i 0) F K:=by
 have:getC (WV ws) i 0=some (.c (.string (S ws[i]))):=by simp [getC,WV,V.cells,h]
 rw [this]; simpa [Eng.asStr] using hk
theorem kS_nil (l:List UInt8):(ByteArray.toList (S l) == ByteArray.toList (ByteArray.mk #[]))=l.isEmpty:=by
 rw [S_toList,show ByteArray.toList (ByteArray.mk #[])=[] from S_toList []]
 cases l <;> rfl
theorem set_mid {α:Type} (a:List α) (x y:α) (b:List α):(a++y :: b).set a.length x=a++x :: b:=by
 induction a with
 | nil=>rfl
 | cons h t ih=>simp
theorem getD_mid {α:Type} (a:List α) (d y:α) (b:List α):(a++y :: b).getD a.length d=y:=by simp
def B8 (l:List UInt8):List V:=l.map fun b=>.c (.int .u8 b.toNat)
theorem B8_len (l:List UInt8):(B8 l).length=l.length:=by simp [B8]
theorem bytesV_S (l:List UInt8):Eng.bytesV (S l)=B8 l:=by simp [Eng.bytesV,B8]
theorem asB8 {l:List UInt8} {i:Nat} (h:i < l.length) {F:Prop} {K:Int→Prop} (hk:K (l[i].toNat:Int)):Eng.asInt .u8 (getC (B8 l) i 0) F K:=by
 have:getC (B8 l) i 0=some (.c (.int .u8 (l[i].toNat:Int))):=by simp [getC,B8,V.cells,h]
 rw [this]; simpa [Eng.asInt] using hk
theorem B8_pack (l:List UInt8):Eng.packB (B8 l)=S l:=by
 have:(l.map fun b=>V.c (.int .u8 (b.toNat:Int))).map Eng.byteOf=l:=by
  rw [List.map_map]
  conv=>rhs; rw [← List.map_id l]
  refine List.map_congr_left fun b _=>?_
  simp [Eng.byteOf]
 unfold Eng.packB B8
 rw [this]
theorem kS_eq (l m:List UInt8):(ByteArray.toList (S l) == ByteArray.toList (S m))=(l == m):=by rw [S_toList,S_toList]
theorem getD_in {α:Type} (l:List α) (i:Nat) (d:α) (h:i < l.length):l.getD i d=l[i]:=by simp [List.getD,h]
theorem asWd {ws:List (List UInt8)} {i:Nat} (h:i < ws.length) {F:Prop} {K:ByteArray→Prop} (hk:K (S (ws.getD i []))):Eng.asStr (getC (WV ws) i 0) F K:=by
 rw [getD_in _ _ _ h] at hk; exact asW h hk
theorem dneg {p:Prop} [Decidable p] (h:¬ p):¬ (decide p=true):=by simpa using h
def TLV (l:List LR):List V:=l.map eLR
theorem TLV_len (l:List LR):(TLV l).length=l.length:=by simp [TLV]
theorem asL1 {l:List LR} {i:Nat} (h:i < l.length) {F:Prop} {K:Int→Prop} (hk:K (l[i]).1):Eng.asInt .i64 (getC (TLV l) i 0) F K:=by
 have:getC (TLV l) i 0=some (.c (.int .i64 (l[i]).1)):=by simp [getC,TLV,eLR,V.cells,h]
 rw [this]; simpa [Eng.asInt] using hk
theorem asL2 {l:List LR} {i:Nat} (h:i < l.length) {F:Prop} {K:Int→Prop} (hk:K (l[i]).2.1):Eng.asInt .i64 (getC (TLV l) i 1) F K:=by
 have:getC (TLV l) i 1=some (.c (.int .i64 (l[i]).2.1)):=by simp [getC,TLV,eLR,V.cells,h]
 rw [this]; simpa [Eng.asInt] using hk
theorem asL3 {l:List LR} {i:Nat} (h:i < l.length) {F:Prop} {K:Bool→Prop} (hk:K (l[i]).2.2):Eng.asBool (getC (TLV l) i 2) F K:=by
 have:getC (TLV l) i 2=some (.c (.bool (l[i]).2.2)):=by simp [getC,TLV,eLR,V.cells,h]
 rw [this]; simpa [Eng.asBool] using hk
theorem numL_bd (l:List UInt8):0≤(numL l).1∧(numL l).1≤9223372036854775807:=by
 unfold numL; split
 ·rename_i h; simp only; omega
 ·simp
theorem wrongL_0 {k:Nat} {l:LR} {a:Int} (h:wrongL k l a=0):k < 200∧730≤l.1∧l.1 < 2932896∧endD l.1=true∧(l.2.1=1∨l.2.1=-1)∧a < l.1:=by
 unfold wrongL at h
 split at h; · omega
 split at h; · omega
 split at h; · omega
 split at h; · omega
 split at h; · omega
 rename_i h1 h2 h3 h4 h5
 refine ⟨by omega,by omega,by omega,by simpa using h3,by omega,by omega⟩
end Go.Proofs.YtdjldmolhkkipaaGreatDoor.Pl
end
section
set_option linter.unusedVariables false
set_option linter.unusedSimpArgs false
namespace Go.Proofs.YtdjldmolhkkipaaGreatDoor.Pl
open Go Go.Proofs.YtdjldmolhkkipaaGreatDoor.Eng
def joinT (ws:List (List UInt8)):List UInt8:=Lib.join ws [9]
def dd (n:Int):List UInt8:=[UInt8.ofNat (48+(n / 10 % 10).toNat),UInt8.ofNat (48+(n % 10).toNat)]
def hms (x:Int):List UInt8:=dd (x / 3600)++58 :: (dd (x / 60 % 60)++58 :: dd (x % 60))
theorem digsN_val:∀ (k u:Nat),u < 10 ^ (k+1)→(digsN (k+1) u).all isDig=true∧valL (digsN (k+1) u)=u∧digsN (k+1) u≠[]
 | k,u,h=>by
  rw [digsN]
  by_cases e:u < 10
  ·rw [if_pos e]
   have:(UInt8.ofNat (48+u)).toNat=48+u:=by simp; omega
   refine ⟨?_,?_,by simp⟩
   ·simp [isDig,this]; omega
   ·unfold valL; rw [List.foldl_cons,List.foldl_nil,this]; omega
  ·rw [if_neg e]
   cases k with
   | zero=>omega
   | succ k =>
    obtain ⟨h1,h2,h3⟩:=digsN_val k (u / 10) (by rw [Nat.pow_succ] at h; omega)
    have:(UInt8.ofNat (48+u % 10)).toNat=48+u % 10:=by simp; omega
    refine ⟨?_,?_,by simp⟩
    ·rw [List.all_append,h1]; simp [isDig,this]; omega
    ·rw [valL_snoc,h2,this]; omega
theorem itoa_num (n:Int) (h0:0≤n) (h1:n≤9223372036854775807):(itoaK n).all isDig=true∧valL (itoaK n)=n.toNat∧itoaK n≠[]:=by
 unfold itoaK
 rw [if_neg (by omega)]
 exact digsN_val 19 n.toNat (by omega)
theorem numL_itoa (n:Int) (h0:0≤n) (h1:n≤9223372036854775807):numL (itoaK n)=(n,true):=by
 obtain ⟨q1,q2,q3⟩:=itoa_num n h0 h1
 unfold numL
 rw [if_pos ⟨q3,q1,by omega⟩,q2,show ((n.toNat:Nat):Int)=n by omega]
def gw (w:List UInt8):Prop:=w≠[]∧∀ c∈w,blankB c=false∧c≠10∧c≠35∧c≠13
theorem gw_digs {w:List UInt8} (h:w.all isDig=true) (hn:w≠[]):gw w:=by
 refine ⟨hn,fun c hc=>?_⟩
 have:=List.all_eq_true.1 h c hc
 simp only [isDig,Bool.and_eq_true,decide_eq_true_eq] at this
 refine ⟨?_,?_,?_,?_⟩
 ·unfold blankB
  rw [Bool.or_eq_false_iff]
  constructor <;> (rw [beq_eq_false_iff_ne]; intro e; subst e; revert this; decide)
 all_goals (intro e; subst e; revert this; decide)
theorem gw_itoa (n:Int) (h0:0≤n) (h1:n≤9223372036854775807):gw (itoaK n):=by
 obtain ⟨q1,q2,q3⟩:=itoa_num n h0 h1
 exact gw_digs q1 q3
theorem join_cons (w v:List UInt8) (r:List (List UInt8)):joinT (w :: v :: r)=w++9 :: joinT (v :: r):=by
 simp [joinT,Lib.join,List.intercalate,List.intersperse]
theorem join_one (w:List UInt8):joinT [w]=w:=by simp [joinT,Lib.join,List.intercalate,List.intersperse]
theorem words_join:∀ (ws:List (List UInt8)),ws≠[]→(∀ w∈ws,gw w)→wordsL (joinT ws)=ws
 | [],h,_=>absurd rfl h
 | [w],_,h=>by
  obtain ⟨h1,h2⟩:=h w (.head _)
  rw [join_one]
  have:=wd_skip w [] [] (fun c hc=>(h2 c hc).1)
  rw [List.append_nil,List.nil_append] at this
  unfold wordsL
  rw [this,wd,if_neg h1]
 | w :: v :: r,_,h=>by
  obtain ⟨h1,h2⟩:=h w (.head _)
  have ih:=words_join (v :: r) (by simp) (fun x hx=>h x (.tail _ hx))
  unfold wordsL at ih ⊢
  rw [join_cons,wd_skip w [] _ (fun c hc=>(h2 c hc).1),List.nil_append,wd,if_pos (by rfl),if_neg h1,ih]
theorem join_mem:∀ (ws:List (List UInt8)) (c:UInt8),c∈joinT ws→c=9∨∃ w∈ws,c∈w
 | [],c,h=>by simp [joinT,Lib.join,List.intercalate,List.intersperse] at h
 | [w],c,h=>by rw [join_one] at h; exact .inr ⟨w,.head _,h⟩
 | w :: v :: r,c,h=>by
  rw [join_cons,List.mem_append,List.mem_cons] at h
  rcases h with h | h | h
  ·exact .inr ⟨w,.head _,h⟩
  ·exact .inl h
  ·rcases join_mem (v :: r) c h with h | ⟨x,hx,hc⟩
   ·exact .inl h
   ·exact .inr ⟨x,.tail _ hx,hc⟩
theorem join_not {ws:List (List UInt8)} (h:∀ w∈ws,gw w):(10:UInt8)∉joinT ws∧(13:UInt8)∉joinT ws∧(35:UInt8)∉joinT ws:=by
 have key:∀ c:UInt8,c=10∨c=13∨c=35→c∉joinT ws:=fun c hc hm=>by
  rcases join_mem ws c hm with h9 | ⟨w,hw,hcw⟩
  ·subst h9; revert hc; decide
  ·obtain ⟨_,q2,q3,q4⟩:=(h w hw).2 c hcw
   rcases hc with rfl | rfl | rfl
   ·exact q2 rfl
   ·exact q4 rfl
   ·exact q3 rfl
 exact ⟨key 10 (.inl rfl),key 13 (.inr (.inl rfl)),key 35 (.inr (.inr rfl))⟩
theorem spl_flat:∀ (xs:List (List UInt8)),(∀ x∈xs,(10:UInt8)∉x)→spl 10 (xs.map (·++[10])).flatten=xs++[[]]
 | [],_=>rfl
 | x :: r,h=>by
  rw [List.map_cons,List.flatten_cons,List.append_assoc,List.singleton_append,spl_app 10 x _ (h x (.head _)),spl_flat r (fun y hy=>h y (.tail _ hy))]; rfl
theorem trimR_id {l:List UInt8} (h:(13:UInt8)∉l):trimR l=l:=by
 unfold trimR
 rw [if_neg]
 intro hh
 exact h (List.mem_of_getLast? hh)
theorem lines_flat (xs:List (List UInt8)) (h:∀ x∈xs,(10:UInt8)∉x):linesL (xs.map (·++[10])).flatten=xs.map trimR:=by
 unfold linesL
 rw [spl_flat xs h]
 simp
theorem map_id_of {α:Type} {f:α→α}:∀ (l:List α),(∀ x∈l,f x=x)→l.map f=l
 | [],_=>rfl
 | x :: r,h=>by rw [List.map_cons,h x (.head _),map_id_of r fun y hy=>h y (.tail _ hy)]
theorem bare_id {l:List UInt8} (h:(35:UInt8)∉l):bareL l=l:=by
 unfold bareL
 have:nl (· == (35:UInt8)) l=l.length:=nl_of _ l l.length (Nat.le_refl _) (fun c hc=>by
  rw [List.take_length] at hc
  simp only [beq_eq_false_iff_ne]; intro e; subst e; exact h hc) (fun hh=>absurd hh (Nat.lt_irrefl _))
 rw [this,List.take_length]
theorem splN_no (c:UInt8) (k:Nat) (a:List UInt8) (h:c∉a):splN c k a=[a]:=by
 have hn:nl (· == c) a=a.length:=nl_of _ _ a.length (Nat.le_refl _) (fun x hx=>by
  rw [List.take_length] at hx
  simp only [beq_eq_false_iff_ne]; intro e; subst e; exact h hx) (fun hh=>absurd hh (Nat.lt_irrefl _))
 cases k with
 | zero=>rfl
 | succ k=>rw [splN,hn,if_neg (Nat.lt_irrefl _)]
theorem checkG_app:∀ (p q:List LR) (k:Nat) (a:Int),(checkG k a (p++q)).2.1=0→(checkG k a p).2.1=0
 | [],q,k,a,h=>rfl
 | l :: p,q,k,a,h=>by
  rw [List.cons_append,checkG] at h
  rw [checkG]
  split at h
  ·rename_i hw; exact absurd h hw
  ·rename_i hw; rw [if_neg hw]; exact checkG_app p q _ _ h
theorem checkG_all:∀ (p:List LR) (k:Nat) (a:Int),(checkG k a p).2.1=0→∀ l∈p,730≤l.1∧l.1 < 2932896∧(l.2.1=1∨l.2.1=-1)
 | [],k,a,h,l,hl=>by cases hl
 | x :: p,k,a,h,l,hl=>by
  rw [checkG] at h
  split at h
  ·rename_i hw; exact absurd h hw
  ·rename_i hw
   have hw:wrongL k x a=0:=by omega
   obtain ⟨_,q1,q2,_,q3,_⟩:=wrongL_0 hw
   cases hl with
   | head=>exact ⟨q1,q2,q3⟩
   | tail _ hl=>exact checkG_all p _ _ h l hl
theorem right_0 {t:Tb} (h:rightT t=true):(checkG 0 729 t.ls).2.1=0∧expB t.has t.ex (checkG 0 729 t.ls).2.2=0:=by
 unfold rightT checkT at h
 rw [beq_iff_eq] at h
 split at h
 ·rename_i hw; exact absurd h hw
 ·rename_i hw; exact ⟨by omega,h⟩
theorem right_of {t:Tb} (h1:(checkG 0 729 t.ls).2.1=0) (h2:expB t.has t.ex (checkG 0 729 t.ls).2.2=0):rightT t=true:=by
 unfold rightT checkT
 rw [if_neg (by omega),h2]; rfl
theorem expB_no (a:Int):expB false 0 a=0:=rfl
theorem right_ex {t:Tb} (h:rightT t=true):(t.has=false→t.ex=0)∧(t.has=true→63072000≤t.ex∧t.ex≤253402300799):=by
 obtain ⟨h1,h2⟩:=right_0 h
 unfold expB at h2
 constructor
 ·intro hh
  rw [hh,if_neg (by simp)] at h2
  split at h2 <;> omega
 ·intro hh
  rw [hh,if_pos rfl] at h2
  split at h2
  ·omega
  ·split at h2 <;> omega
theorem addT_ok {ls:List LR} {l:LR} (h:(checkG 0 729 (ls++[l])).2.1=0):addT ⟨ls,false,0⟩ l=(⟨ls++[l],false,0⟩,0):=by
 have:(checkT ⟨ls++[l],false,0⟩).2=0:=by
  unfold checkT
  rw [if_neg (fun hn=>hn h)]
  exact expB_no (checkG 0 729 (ls++[l])).2.2
 unfold addT
 rw [if_neg (fun hn=>hn this)]
theorem addT_good {ls:List LR} {l:LR} (h:(checkG 0 729 ls).2.1=0):(checkG 0 729 (addT ⟨ls,false,0⟩ l).1.ls).2.1=0:=by
 unfold addT
 split
 ·exact h
 ·rename_i hc
  unfold checkT at hc
  split at hc
  ·rename_i hw; exact absurd hw (by omega)
  ·rename_i hw; dsimp only at hw ⊢; omega
end Go.Proofs.YtdjldmolhkkipaaGreatDoor.Pl
end
section
set_option linter.unusedVariables false
set_option linter.unusedSimpArgs false
namespace Go.Proofs.YtdjldmolhkkipaaGreatDoor.Pl
open Go Go.Proofs.YtdjldmolhkkipaaGreatDoor.Eng
def isHex (c:UInt8):Bool:=(48≤c.toNat && c.toNat≤57) || (97≤c.toNat && c.toNat≤102) || (65≤c.toNat && c.toNat≤70)
def hexD (c:UInt8):Nat:=if c.toNat≤57 then c.toNat - 48 else if 97≤c.toNat then c.toNat - 87 else c.toNat - 55
def hexV (l:List UInt8):Nat:=l.foldl (fun n c=>16 * n+hexD c) 0
def wordOk (l:List UInt8):Bool:=decide (1≤l.length∧l.length≤8) && l.all isHex
def hashOk (s:List UInt8):Bool:=(wordsL s).length == 5 && (wordsL s).all wordOk
def hashW (s:List UInt8) (k:Nat):W32:=if hashOk s=true then BitVec.ofNat 32 (hexV ((wordsL s).getD k [])) else 0
def dW (w:Nat→W32) (k:Nat):UInt8:=UInt8.ofNat ((w (k / 4)).toNat / 2 ^ (24 - 8 * (k % 4)))
def partW (w:Nat→W32) (k:Nat):List UInt8:=((hexN (dW w) 20).drop (8 * k)).take 8
def ntextL (w:Nat→W32):List UInt8:=Lib.join ((List.range 5).map (partW w)) [32]
structure LW where
 kd:List UInt8
 ws:List (List UInt8)
 ns:List Int
 ok:Bool
abbrev kStamp:List UInt8:=[35,36]
abbrev kExp:List UInt8:=[35,64]
abbrev kHash:List UInt8:=[35,104]
abbrev kRem:List UInt8:=[35]
def numsR (kd s:List UInt8) (many:Nat):LW :=
 ⟨kd,if ((wordsL s).all fun w=>(numL w).2)=true∧(wordsL s).length=many then wordsL s else [],(wordsL s).map fun w=>(numL w).1,((wordsL s).all fun w=>(numL w).2) && (wordsL s).length == many⟩
def readL (s:List UInt8):LW :=
 if wordsL s=[] then ⟨kRem,[],[],true⟩
 else if s.take 2=kStamp∨s.take 2=kExp then numsR (s.take 2) (s.drop 2) 1
 else if s.take 2=kHash then ⟨kHash,[],[],hashOk (s.drop 2)⟩
 else if preB ((wordsL s).getD 0 []) kRem=true then ⟨kRem,[],[],true⟩
 else numsR [] (bareL s) 2
def kindsL:List (List UInt8):=[kStamp,kExp,[]]
def hashedK (kd:List UInt8) (R:List LW):List UInt8:=(R.map fun r=>if r.kd=kd then r.ws.flatten else []).flatten
def hashedL (R:List LW):List UInt8:=hashedK kStamp R++(hashedK kExp R++hashedK [] R)
def rowsL (s:List UInt8):List LW:=(linesL s).map readL
def hashL (s:List UInt8):Nat→UInt8:=digest (hashedL (rowsL s))
structure LS where
 ls:List LR
 off:Int
 bg:Bool
 a1:Int
 a2:Int
 a3:Int
def ls0:LS:=⟨[],0,false,0,0,0⟩
def dataL (s:LS) (n o:Int):LS×Int :=
 if s.bg=false then (if n - 2208988800≠63072000∨o≠10 then (s,9) else (⟨s.ls,o,true,s.a1,s.a2,s.a3⟩,0))
 else if (n - 2208988800) % 86400≠0 then (s,5)
 else if o - s.off≠1∧o - s.off≠-1 then (s,6)
 else (⟨(addT ⟨s.ls,false,0⟩ ((n - 2208988800) / 86400 - 1,o - s.off,false)).1.ls,o,true,s.a1,s.a2,s.a3⟩,(addT ⟨s.ls,false,0⟩ ((n - 2208988800) / 86400 - 1,o - s.off,false)).2)
def lineL (s:LS) (no:Nat) (r:LW):LS×Int :=
 if r.ok=false then (s,2)
 else if r.kd=kStamp then (if s.a1 > 0 then (s,2) else (⟨s.ls,s.off,s.bg,no,s.a2,s.a3⟩,0))
 else if r.kd=kExp then (if s.a2 > 0 then (s,2) else (⟨s.ls,s.off,s.bg,s.a1,no,s.a3⟩,0))
 else if r.kd=kHash then (if s.a3 > 0 then (s,2) else (⟨s.ls,s.off,s.bg,s.a1,s.a2,no⟩,0))
 else if r.kd=[] then dataL s (r.ns.getD 0 0) (r.ns.getD 1 0)
 else (s,0)
def goL:Nat→LS→List LW→LS×Int×Int
 | _,s,[]=>(s,0,0)
 | k,s,r :: rest=>if (lineL s (k+1) r).2≠0 then (s,(k:Int)+1,(lineL s (k+1) r).2) else goL (k+1) (lineL s (k+1) r).1 rest
def lw0:LW:=⟨[],[],[],false⟩
def same5L (w v:Nat→W32):Bool:=w 0 == v 0 && w 1 == v 1 && w 2 == v 2 && w 3 == v 3 && w 4 == v 4
def endL (L:List (List UInt8)) (R:List LW) (g:LS):Tb×Int×Int :=
 if g.bg=false then (tb0,(R.length:Int)+1,2)
 else if g.a2 > 0∧rightT ⟨g.ls,true,(R.getD (g.a2.toNat - 1) lw0).ns.getD 0 0 - 2208988800⟩=false then (tb0,g.a2,9)
 else if g.a3 > 0∧same5L (hashW ((L.getD (g.a3.toNat - 1) []).drop 2)) (wordsOf (digest (hashedL R)))=false then (tb0,g.a3,3)
 else (if g.a2 > 0 then ⟨g.ls,true,(R.getD (g.a2.toNat - 1) lw0).ns.getD 0 0 - 2208988800⟩ else ⟨g.ls,false,0⟩,0,0)
def lparseL (s:List UInt8):Tb×Int×Int :=
 if (goL 0 ls0 (rowsL s)).2.2≠0 then (tb0,(goL 0 ls0 (rowsL s)).2.1,(goL 0 ls0 (rowsL s)).2.2) else endL (linesL s) (rowsL s) (goL 0 ls0 (rowsL s)).1
def lpairL (p o:Int):List UInt8:=itoaK (p+2208988800)++9 :: itoaK o
def offsL:Int→List LR→List (List UInt8)
 | _,[]=>[]
 | o,l :: r=>lpairL ((l.1+1) * 86400) (o+l.2.1) :: offsL (o+l.2.1) r
def offOk:Int→List LR→Bool
 | _,[]=>true
 | o,l :: r=>!l.2.2 && decide (0≤o+l.2.1) && offOk (o+l.2.1) r
def ahead (t:Tb) (wh:Int):List (List UInt8):=(kStamp++9 :: itoaK wh) :: ((if t.has=true then [kExp++9 :: itoaK (t.ex+2208988800)] else [])++lpairL 63072000 10 :: offsL 10 t.ls)
def textOf (ls:List (List UInt8)):List UInt8:=(ls.map (·++[10])).flatten
def ltextB (t:Tb) (wh:Int):List UInt8:=textOf (ahead t wh)++(kHash++9 :: ntextL (wordsOf (hashL (textOf (ahead t wh)))))++[10]
def ltextL (t:Tb) (wh:Int):List UInt8×Bool:=if rightT t=true∧0≤wh∧offOk 10 t.ls=true then (ltextB t wh,true) else ([],false)
end Go.Proofs.YtdjldmolhkkipaaGreatDoor.Pl
end
section
set_option linter.unusedVariables false
set_option linter.unusedSimpArgs false
namespace Go.Proofs.YtdjldmolhkkipaaGreatDoor.Pl
open Go Go.Proofs.YtdjldmolhkkipaaGreatDoor.Eng
theorem hexC_hex:∀ a:Fin 16,isHex (hexC a.val)=true∧hexD (hexC a.val)=a.val∧blankB (hexC a.val)=false∧hexC a.val≠10∧hexC a.val≠13∧hexC a.val≠35:=by decide
theorem hexC_ok (n:Nat) (h:n < 16):isHex (hexC n)=true∧hexD (hexC n)=n∧blankB (hexC n)=false∧hexC n≠10∧hexC n≠13∧hexC n≠35:=hexC_hex ⟨n,h⟩
theorem hexN_all (d:Nat→UInt8):∀ n,∀ c∈hexN d n,∃ a,a < 16∧c=hexC a
 | 0,c,h=>by cases h
 | n+1,c,h=>by
  have hl:=(d n).toNat_lt
  rw [show hexN d (n+1)=hexN d n++[hexC ((d n).toNat / 16),hexC ((d n).toNat % 16)] from rfl,List.mem_append] at h
  rcases h with h | h
  ·exact hexN_all d n c h
  ·simp only [List.mem_cons,List.not_mem_nil,or_false] at h
   rcases h with rfl | rfl
   ·exact ⟨_,by omega,rfl⟩
   ·exact ⟨_,by omega,rfl⟩
theorem hexN_len' (d:Nat→UInt8):∀ n,(hexN d n).length=2 * n
 | 0=>rfl
 | n+1=>by
  rw [show hexN d (n+1)=hexN d n++[hexC ((d n).toNat / 16),hexC ((d n).toNat % 16)] from rfl,List.length_append,hexN_len' d n]; simp; omega
theorem partW_len (w:Nat→W32) (k:Nat) (h:k < 5):(partW w k).length=8:=by
 unfold partW; rw [List.length_take,List.length_drop,hexN_len']; omega
theorem partW_mem (w:Nat→W32) (k:Nat):∀ c∈partW w k,∃ a,a < 16∧c=hexC a:=fun c h=>hexN_all _ 20 c (List.mem_of_mem_drop (List.mem_of_mem_take h))
theorem part_eq (w:Nat→W32) (k:Nat) (h:k < 5):partW w k=[hexC ((dW w (4 * k)).toNat / 16),hexC ((dW w (4 * k)).toNat % 16),hexC ((dW w (4 * k+1)).toNat / 16),hexC ((dW w (4 * k+1)).toNat % 16),hexC ((dW w (4 * k+2)).toNat / 16),hexC ((dW w (4 * k+2)).toNat % 16),hexC ((dW w (4 * k+3)).toNat / 16),hexC ((dW w (4 * k+3)).toNat % 16)]:=by
 exact match k,h with
 | 0,_=>by kernel_rfl
 | 1,_=>by kernel_rfl
 | 2,_=>by kernel_rfl
 | 3,_=>by kernel_rfl
 | 4,_=>by kernel_rfl
 | n+5,h=>by omega
theorem dW_val (w:Nat→W32) (k j:Nat) (hj:j < 4):(dW w (4 * k+j)).toNat=(w k).toNat / 2 ^ (24 - 8 * j) % 256:=by
 unfold dW
 rw [UInt8.toNat_ofNat',show (4 * k+j) / 4=k by omega,show (4 * k+j) % 4=j by omega]
theorem hexV_part (w:Nat→W32) (k:Nat) (h:k < 5):hexV (partW w k)=(w k).toNat:=by
 have hw:=(w k).isLt
 have e0:(dW w (4 * k)).toNat=(w k).toNat / 16777216 % 256:=dW_val w k 0 (by omega)
 have e1:(dW w (4 * k+1)).toNat=(w k).toNat / 65536 % 256:=dW_val w k 1 (by omega)
 have e2:(dW w (4 * k+2)).toNat=(w k).toNat / 256 % 256:=dW_val w k 2 (by omega)
 have e3:(dW w (4 * k+3)).toNat=(w k).toNat / 1 % 256:=dW_val w k 3 (by omega)
 rw [part_eq w k h,e0,e1,e2,e3]
 unfold hexV
 simp only [List.foldl_cons,List.foldl_nil]
 rw [(hexC_ok _ (by omega)).2.1,(hexC_ok _ (by omega)).2.1,(hexC_ok _ (by omega)).2.1,(hexC_ok _ (by omega)).2.1,(hexC_ok _ (by omega)).2.1,(hexC_ok _ (by omega)).2.1,(hexC_ok _ (by omega)).2.1,(hexC_ok _ (by omega)).2.1]
 omega
theorem ntext_eq (w:Nat→W32):ntextL w=partW w 0++32 :: (partW w 1++32 :: (partW w 2++32 :: (partW w 3++32 :: partW w 4))):=by
 unfold ntextL
 rw [show (List.range 5).map (partW w)=[partW w 0,partW w 1,partW w 2,partW w 3,partW w 4] from rfl]
 simp [Lib.join,List.intercalate,List.intersperse]
theorem part_blank (w:Nat→W32) (k:Nat):∀ c∈partW w k,blankB c=false:=fun c h=>by
 obtain ⟨a,ha,rfl⟩:=partW_mem w k c h
 exact (hexC_ok a ha).2.2.1
theorem wd_one (a r:List UInt8) (h:∀ c∈a,blankB c=false) (hne:a≠[]):wd [] (a++32 :: r)=a :: wd [] r:=by
 rw [wd_skip a [] _ h,List.nil_append,wd,if_pos (by rfl),if_neg hne]
theorem words_hash (w:Nat→W32):wordsL (9 :: ntextL w)=[partW w 0,partW w 1,partW w 2,partW w 3,partW w 4]:=by
 have ne:∀ k,k < 5→partW w k≠[]:=fun k hk q=>by have:=partW_len w k hk; rw [q] at this; cases this
 unfold wordsL
 rw [wd,if_pos (by rfl),if_pos rfl,ntext_eq,wd_one _ _ (part_blank w 0) (ne 0 (by omega)),wd_one _ _ (part_blank w 1) (ne 1 (by omega)),wd_one _ _ (part_blank w 2) (ne 2 (by omega)),wd_one _ _ (part_blank w 3) (ne 3 (by omega))]
 have:=wd_skip (partW w 4) [] [] (part_blank w 4)
 rw [List.append_nil,List.nil_append] at this
 rw [this,wd,if_neg (ne 4 (by omega))]
theorem word_part (w:Nat→W32) (k:Nat) (h:k < 5):wordOk (partW w k)=true:=by
 unfold wordOk
 rw [partW_len w k h,Bool.and_eq_true]
 refine ⟨by decide,List.all_eq_true.2 fun c hc=>?_⟩
 obtain ⟨a,ha,rfl⟩:=partW_mem w k c hc
 exact (hexC_ok a ha).1
theorem getD5 (f:Nat→List UInt8) (k:Nat) (h:k < 5):[f 0,f 1,f 2,f 3,f 4].getD k []=f k:=by
 match k,h with
 | 0,_=>rfl
 | 1,_=>rfl
 | 2,_=>rfl
 | 3,_=>rfl
 | 4,_=>rfl
 | n+5,h=>omega
theorem hash_text (w:Nat→W32):hashOk (9 :: ntextL w)=true∧∀ k,k < 5→hashW (9 :: ntextL w) k=w k:=by
 have ok:hashOk (9 :: ntextL w)=true:=by
  unfold hashOk
  rw [words_hash]
  simp only [List.all_cons,List.all_nil,word_part w 0 (by omega),word_part w 1 (by omega),word_part w 2 (by omega),word_part w 3 (by omega),word_part w 4 (by omega)]
  rfl
 refine ⟨ok,fun k hk=>?_⟩
 unfold hashW
 rw [if_pos ok,words_hash]
 have e:=getD5 (partW w) k hk
 rw [e,hexV_part w k hk]
 exact BitVec.ofNat_toNat ..
theorem same5_of {w v:Nat→W32} (h:∀ k,k < 5→w k=v k):same5L w v=true:=by
 unfold same5L
 rw [h 0 (by omega),h 1 (by omega),h 2 (by omega),h 3 (by omega),h 4 (by omega)]; simp
theorem ntext_no (w:Nat→W32) (c:UInt8) (hc:c=10∨c=13∨c=35):c∉ntextL w:=fun hm=>by
 have hp:∀ k,c∉partW w k:=fun k q=>by
  obtain ⟨a,ha,e⟩:=partW_mem w k c q
  obtain ⟨_,_,_,n1,n2,n3⟩:=hexC_ok a ha
  rcases hc with rfl | rfl | rfl
  ·exact n1 e.symm
  ·exact n2 e.symm
  ·exact n3 e.symm
 have h32:c≠32:=by rcases hc with rfl | rfl | rfl <;> decide
 rw [ntext_eq] at hm
 simp only [List.mem_append,List.mem_cons] at hm
 rcases hm with hm | hm | hm | hm | hm | hm | hm | hm | hm
 ·exact hp 0 hm
 ·exact h32 hm
 ·exact hp 1 hm
 ·exact h32 hm
 ·exact hp 2 hm
 ·exact h32 hm
 ·exact hp 3 hm
 ·exact h32 hm
 ·exact hp 4 hm
end Go.Proofs.YtdjldmolhkkipaaGreatDoor.Pl
end
section
set_option linter.unusedVariables false
set_option linter.unusedSimpArgs false
namespace Go.Proofs.YtdjldmolhkkipaaGreatDoor.Pl
open Go Go.Proofs.YtdjldmolhkkipaaGreatDoor.Eng
theorem hd_itoa {n:Int} (h0:0≤n) (h1:n≤9223372036854775807):∃ c r,itoaK n=c :: r∧isDig c=true:=by
 obtain ⟨a,_,b⟩:=itoa_num n h0 h1
 cases h:itoaK n with
 | nil=>exact absurd h b
 | cons c r =>
  rw [h] at a
  exact ⟨c,r,rfl,List.all_eq_true.1 a c (.head _)⟩
theorem dig_35 {c:UInt8} (h:isDig c=true):c≠35:=by rintro rfl; revert h; decide
theorem words_tab (n:Int) (h0:0≤n) (h1:n≤9223372036854775807):wordsL (9 :: itoaK n)=[itoaK n]:=by
 have:=words_join [itoaK n] (by simp) (fun w hw=>by rw [List.mem_singleton] at hw; rw [hw]; exact gw_itoa n h0 h1)
 rw [join_one] at this
 unfold wordsL at this ⊢
 rw [wd,if_pos (by rfl),if_pos rfl,this]
theorem words_two (a b:UInt8) (r:List UInt8) (ha:blankB a=false) (hb:blankB b=false):wordsL (a :: b :: 9 :: r)=[a,b] :: wd [] r:=by
 unfold wordsL
 rw [wd,if_neg (by rw [ha]; simp),wd,if_neg (by rw [hb]; simp),wd,if_pos (by rfl),if_neg (by simp)]
 rfl
theorem read_kind (b:UInt8) (hb:b=36∨b=64) (n:Int) (h0:0≤n) (h1:n≤9223372036854775807):readL ([35,b]++9 :: itoaK n)=⟨[35,b],[itoaK n],[n],true⟩:=by
 have hbb:blankB b=false:=by rcases hb with rfl | rfl <;> rfl
 have hw:wordsL ([35,b]++9 :: itoaK n)≠[]:=by
  rw [show [35,b]++9 :: itoaK n=35 :: b :: 9 :: itoaK n from rfl,words_two 35 b _ rfl hbb]; simp
 unfold readL
 rw [if_neg hw]
 have ht:([35,b]++9 :: itoaK n).take 2=[35,b]:=rfl
 have hd:([35,b]++9 :: itoaK n).drop 2=9 :: itoaK n:=rfl
 rw [ht,hd,if_pos (by rcases hb with rfl | rfl; exact .inl rfl; exact .inr rfl)]
 unfold numsR
 rw [words_tab n h0 h1]
 simp only [List.all_cons,List.all_nil,List.map_cons,List.map_nil,numL_itoa n h0 h1,Bool.and_true,List.length_singleton]
 simp
theorem read_hash (w:Nat→W32):readL (kHash++9 :: ntextL w)=⟨kHash,[],[],true⟩:=by
 have hw:wordsL (kHash++9 :: ntextL w)≠[]:=by
  rw [show kHash++9 :: ntextL w=35 :: 104 :: 9 :: ntextL w from rfl,words_two 35 104 _ rfl rfl]; simp
 unfold readL
 rw [if_neg hw]
 have ht:(kHash++9 :: ntextL w).take 2=kHash:=rfl
 have hd:(kHash++9 :: ntextL w).drop 2=9 :: ntextL w:=rfl
 rw [ht,hd,if_neg (by decide),if_pos rfl,(hash_text w).1]
theorem read_pair {p o:Int} (h0:0≤p+2208988800) (h1:p+2208988800≤9223372036854775807) (o0:0≤o) (o1:o≤9223372036854775807):readL (lpairL p o)=⟨[],[itoaK (p+2208988800),itoaK o],[p+2208988800,o],true⟩:=by
 have hj:lpairL p o=joinT [itoaK (p+2208988800),itoaK o]:=by unfold lpairL; rw [join_cons,join_one]
 have hg:∀ w∈[itoaK (p+2208988800),itoaK o],gw w:=fun w hw=>by
  simp only [List.mem_cons,List.not_mem_nil,or_false] at hw
  rcases hw with rfl | rfl
  ·exact gw_itoa _ h0 h1
  ·exact gw_itoa _ o0 o1
 have hw:wordsL (lpairL p o)=[itoaK (p+2208988800),itoaK o]:=by rw [hj]; exact words_join _ (by simp) hg
 have hb:bareL (lpairL p o)=lpairL p o:=by rw [hj]; exact bare_id (join_not hg).2.2
 obtain ⟨c,r,e,hc⟩:=hd_itoa h0 h1
 have hne:=dig_35 hc
 have ht:∀ b:UInt8,(lpairL p o).take 2≠[35,b]:=fun b q=>by
  unfold lpairL at q
  rw [e,List.cons_append] at q
  cases hr:r++9 :: itoaK o with
  | nil=>rw [hr] at q; cases q
  | cons x y=>rw [hr] at q; exact hne (List.cons.inj q).1
 unfold readL
 rw [hw,if_neg (by simp),if_neg (by rintro (q | q); exact ht _ q; exact ht _ q),if_neg (ht _),if_neg,hb]
 ·unfold numsR
  rw [hw]
  simp only [List.all_cons,List.all_nil,List.map_cons,List.map_nil,numL_itoa _ h0 h1,numL_itoa _ o0 o1,Bool.and_true,List.length_cons,List.length_nil]
  simp
 ·unfold preB
  rw [List.getD_cons_zero,e]
  show ¬ ((c :: r).take 1 == [35])=true
  simpa using hne
theorem goL_app:∀ (A B:List LW) (k:Nat) (s:LS),(goL k s A).2.2=0→goL k s (A++B)=goL (k+A.length) (goL k s A).1 B
 | [],B,k,s,h=>by rw [goL]; simp
 | r :: A,B,k,s,h=>by
  rw [goL] at h
  rw [List.cons_append,goL,goL]
  by_cases e:(lineL s (k+1) r).2≠0
  ·rw [if_pos e] at h; exact absurd h e
  ·rw [if_neg e] at h
   rw [if_neg e,if_neg e,goL_app A B _ _ h,List.length_cons]
   congr 1; omega
theorem line_data (s:LS) (no:Nat) (ws:List (List UInt8)) (n o:Int):lineL s no ⟨[],ws,[n,o],true⟩=dataL s n o:=by
 unfold lineL
 rw [if_neg (by simp),if_neg (by simp),if_neg (by simp),if_neg (by simp),if_pos rfl]
 rfl
theorem offOk_cons {o:Int} {l:LR} {r:List LR} (h:offOk o (l :: r)=true):l.2.2=false∧0≤o+l.2.1∧offOk (o+l.2.1) r=true:=by
 unfold offOk at h
 simp only [Bool.and_eq_true,decide_eq_true_eq,Bool.not_eq_true'] at h
 exact ⟨h.1.1,h.1.2,h.2⟩
theorem go_leaps:∀ (q p:List LR) (k:Nat) (o a1 a2 a3:Int),(checkG 0 729 (p++q)).2.1=0→offOk o q=true→0≤o→o+q.length≤1000000 →
  ∃ o',goL k ⟨p,o,true,a1,a2,a3⟩ ((offsL o q).map readL)=(⟨p++q,o',true,a1,a2,a3⟩,0,0)
 | [],p,k,o,a1,a2,a3,h,ho,h0,h1=>⟨o,by rw [offsL,List.map_nil,goL,List.append_nil]⟩
 | l :: q,p,k,o,a1,a2,a3,h,ho,h0,h1=>by
  obtain ⟨q1,q2,q3⟩:=checkG_all _ _ _ h l (by simp)
  have h':(checkG 0 729 (p++[l])).2.1=0:=checkG_app (p++[l]) q _ _ (by simpa using h)
  obtain ⟨c1,c2,c3⟩:=offOk_cons ho
  rw [List.length_cons] at h1
  have hl:l=(l.1,l.2.1,false):=by rw [← c1]
  have hd:dataL ⟨p,o,true,a1,a2,a3⟩ ((l.1+1) * 86400+2208988800) (o+l.2.1)=(⟨p++[l],o+l.2.1,true,a1,a2,a3⟩,0):=by
   unfold dataL
   dsimp only
   have e1:(l.1+1) * 86400+2208988800 - 2208988800=(l.1+1) * 86400:=by omega
   have e2:o+l.2.1 - o=l.2.1:=by omega
   have e3:(l.1+1) * 86400 / 86400 - 1=l.1:=by omega
   rw [e1,e2,e3,if_neg (by simp),if_neg (by omega),if_neg (by omega),← hl,addT_ok h']
  obtain ⟨o',ih⟩:=go_leaps q (p++[l]) (k+1) (o+l.2.1) a1 a2 a3 (by simpa using h) c3 c2 (by omega)
  refine ⟨o',?_⟩
  rw [offsL,List.map_cons,read_pair (by omega) (by omega) c2 (by omega),goL,line_data,hd,if_neg (by simp)]
  dsimp only
  rw [ih]; simp
theorem leng_check {t:Tb} (h:rightT t=true):t.ls.length≤1000:=by
 have:=(right_0 h).1
 have hb:∀ (p:List LR) (k:Nat) (a:Int),(checkG k a p).2.1=0→p=[]∨k+p.length≤200:=by
  intro p
  induction p with
  | nil=>intro k a h; exact .inl rfl
  | cons l r ih =>
   intro k a h
   rw [checkG] at h
   by_cases hw:wrongL k l a=0
   ·rw [if_neg (by simp [hw])] at h
    have h1:=(wrongL_0 hw).1
    rcases ih _ _ h with e | e
    ·rw [e]; right; simp; omega
    ·right; rw [List.length_cons]; omega
   ·rw [if_pos hw] at h; exact absurd h hw
 rcases hb _ _ _ this with e | e
 ·rw [e]; simp
 ·omega
theorem goL_one (k:Nat) (s:LS) (r:LW) (h:(lineL s (k+1) r).2=0):goL k s [r]=((lineL s (k+1) r).1,0,0):=by
 rw [goL,if_neg (fun q=>q h),goL]
theorem ahead_rows {t:Tb} {wh:Int} (hr:rightT t=true) (h0:0≤wh) (h1:wh≤9223372036854775807):(ahead t wh).map readL=⟨kStamp,[itoaK wh],[wh],true⟩ :: ((if t.has=true then [⟨kExp,[itoaK (t.ex+2208988800)],[t.ex+2208988800],true⟩] else [])++⟨[],[itoaK 2272060800,itoaK 10],[2272060800,10],true⟩ :: (offsL 10 t.ls).map readL):=by
 have hx:=right_ex hr
 unfold ahead
 rw [List.map_cons,read_kind 36 (.inl rfl) wh h0 h1,List.map_append,List.map_cons,read_pair (p:=63072000) (o:=10) (by omega) (by omega) (by omega) (by omega)]
 cases hh:t.has
 ·rfl
 ·have:=hx.2 hh
  rw [if_pos rfl,List.map_cons,List.map_nil,read_kind 64 (.inr rfl) _ (by omega) (by omega)]
  rfl
theorem ahead_good {t:Tb} {wh:Int} (hr:rightT t=true) (h0:0≤wh) (h1:wh≤9223372036854775807) (ho:offOk 10 t.ls=true):∀ x∈ahead t wh,∀ c∈x,c≠10∧c≠13:=by
 have it:∀ n:Int,0≤n→n≤9223372036854775807→∀ c∈itoaK n,c≠10∧c≠13:=fun n a b c hc=>by
  have:=(gw_itoa n a b).2 c hc
  exact ⟨this.2.1,this.2.2.2⟩
 have pr:∀ p o:Int,0≤p+2208988800→p+2208988800≤9223372036854775807→0≤o→o≤9223372036854775807→∀ c∈lpairL p o,c≠10∧c≠13:=fun p o a b d e c hc=>by
  unfold lpairL at hc
  rw [List.mem_append,List.mem_cons] at hc
  rcases hc with hc | rfl | hc
  ·exact it _ a b c hc
  ·decide
  ·exact it _ d e c hc
 have lp:∀ (q:List LR) (o:Int),(∀ l∈q,730≤l.1∧l.1 < 2932896∧(l.2.1=1∨l.2.1=-1))→offOk o q=true→0≤o→o+q.length≤1000000→∀ x∈offsL o q,∀ c∈x,c≠10∧c≠13:=by
  intro q
  induction q with
  | nil=>intro o _ _ _ _ x hx; cases hx
  | cons l r ih =>
   intro o hq hk h0 h1 x hx
   obtain ⟨c1,c2,c3⟩:=offOk_cons hk
   obtain ⟨d1,d2,d3⟩:=hq l (.head _)
   rw [List.length_cons] at h1
   rw [offsL,List.mem_cons] at hx
   rcases hx with rfl | hx
   ·exact pr _ _ (by omega) (by omega) c2 (by omega)
   ·exact ih _ (fun l hl=>hq l (.tail _ hl)) c3 c2 (by omega) x hx
 intro x hx c hc
 unfold ahead at hx
 rw [List.mem_cons,List.mem_append,List.mem_cons] at hx
 rcases hx with rfl | hx | rfl | hx
 ·rcases List.mem_append.1 hc with hc | hc
  ·exact (by decide:∀ d∈kStamp,d≠10∧d≠13) c hc
  rcases List.mem_cons.1 hc with rfl | hc
  ·decide
  ·exact it _ h0 h1 c hc
 ·split at hx
  ·rename_i hh
   have:=(right_ex hr).2 hh
   rw [List.mem_singleton] at hx
   subst hx
   rcases List.mem_append.1 hc with hc | hc
   ·exact (by decide:∀ d∈kExp,d≠10∧d≠13) c hc
   rcases List.mem_cons.1 hc with rfl | hc
   ·decide
   ·exact it _ (by omega) (by omega) c hc
  ·cases hx
 ·exact pr _ _ (by omega) (by omega) (by omega) (by omega) c hc
 ·have hl:=leng_check hr
  exact lp t.ls 10 (checkG_all _ _ _ (right_0 hr).1) ho (by omega) (by omega) x hx c hc
theorem lines_of (L:List (List UInt8)) (h:∀ x∈L,∀ c∈x,c≠10∧c≠13):linesL (textOf L)=L:=by
 unfold textOf
 rw [lines_flat L (fun x hx hc=>(h x hx 10 hc).1 rfl)]
 exact map_id_of L fun x hx=>trimR_id fun hc=>(h x hx 13 hc).2 rfl
theorem hashedK_app (kd:List UInt8) (A B:List LW):hashedK kd (A++B)=hashedK kd A++hashedK kd B:=by unfold hashedK; simp
theorem hashed_hash (A:List LW) (r:LW) (h:r.kd=kHash∨r.kd=kRem):hashedL (A++[r])=hashedL A:=by
 have:∀ kd,kd=kStamp∨kd=kExp∨kd=[]→hashedK kd [r]=[]:=fun kd hk=>by
  unfold hashedK
  rw [List.map_cons,List.map_nil,if_neg]
  ·rfl
  ·rcases h with h | h <;> rw [h] <;> rcases hk with rfl | rfl | rfl <;> decide
 unfold hashedL
 rw [hashedK_app,hashedK_app,hashedK_app,this _ (.inl rfl),this _ (.inr (.inl rfl)),this _ (.inr (.inr rfl))]
 simp
theorem lparse_text {t:Tb} {wh:Int} (hr:rightT t=true) (h0:0≤wh) (h1:wh≤9223372036854775807) (ho:offOk 10 t.ls=true):lparseL (ltextB t wh)=(t,0,0):=by
 have hg:=ahead_good hr h0 h1 ho
 have hlen:=leng_check hr
 have hx:=right_ex hr
 generalize hW:wordsOf (hashL (textOf (ahead t wh)))=W
 have hline:∀ c∈kHash++9 :: ntextL W,c≠10∧c≠13:=fun c hc=>by
  rcases List.mem_append.1 hc with hc | hc
  ·exact (by decide:∀ d∈kHash,d≠10∧d≠13) c hc
  rcases List.mem_cons.1 hc with rfl | hc
  ·decide
  ·exact ⟨fun q=>ntext_no W 10 (.inl rfl) (q ▸ hc),fun q=>ntext_no W 13 (.inr (.inl rfl)) (q ▸ hc)⟩
 have ht:ltextB t wh=textOf (ahead t wh++[kHash++9 :: ntextL W]):=by
  show textOf (ahead t wh)++(kHash++9 :: ntextL (wordsOf (hashL (textOf (ahead t wh)))))++[10]=_
  rw [hW]; simp [textOf]
 have hL:linesL (ltextB t wh)=ahead t wh++[kHash++9 :: ntextL W]:=by
  rw [ht]
  refine lines_of _ fun x hx c hc=>?_
  rcases List.mem_append.1 hx with hx | hx
  ·exact hg x hx c hc
  ·rw [List.mem_singleton] at hx; rw [hx] at hc; exact hline c hc
 have hL0:linesL (textOf (ahead t wh))=ahead t wh:=lines_of _ hg
 have hR:rowsL (ltextB t wh)=(ahead t wh).map readL++[⟨kHash,[],[],true⟩]:=by
  unfold rowsL; rw [hL,List.map_append,List.map_cons,List.map_nil,read_hash]
 have hown:wordsOf (digest (hashedL (rowsL (ltextB t wh))))=W:=by
  rw [hR,hashed_hash _ _ (.inl rfl),← hW]
  unfold hashL rowsL
  rw [hL0]
 have hA:=ahead_rows (t:=t) (wh:=wh) hr h0 h1
 have c1:=right_0 hr
 -- the lines ahead of the hash
 have hgo:∃ o',goL 0 ls0 ((ahead t wh).map readL)=(⟨t.ls,o',true,1,if t.has=true then 2 else 0,0⟩,0,0):=by
  rw [hA]
  have stamp:lineL ls0 1 ⟨kStamp,[itoaK wh],[wh],true⟩=(⟨[],0,false,1,0,0⟩,0):=rfl
  rw [goL,stamp,if_neg (by simp)]
  dsimp only
  have anchor:∀ (a1 a2:Int) (no:Nat),lineL ⟨[],0,false,a1,a2,0⟩ no ⟨[],[itoaK 2272060800,itoaK 10],[2272060800,10],true⟩=(⟨[],10,true,a1,a2,0⟩,0):=fun a1 a2 no=>by
   rw [line_data]; rfl
  cases hh:t.has
  ·rw [if_neg (by simp),if_neg (by simp),List.nil_append,goL,anchor,if_neg (by simp)]
   obtain ⟨o',e⟩:=go_leaps t.ls [] (0+1+1) 10 1 0 0 (by simpa using c1.1) ho (by omega) (by omega)
   exact ⟨o',by rw [e]; rfl⟩
  ·rw [if_pos rfl,if_pos rfl,List.singleton_append,goL]
   have exl:lineL ⟨[],0,false,1,0,0⟩ (0+1+1) ⟨kExp,[itoaK (t.ex+2208988800)],[t.ex+2208988800],true⟩=(⟨[],0,false,1,2,0⟩,0):=rfl
   rw [exl,if_neg (by simp)]
   dsimp only
   rw [goL,anchor,if_neg (by simp)]
   obtain ⟨o',e⟩:=go_leaps t.ls [] (0+1+1+1) 10 1 2 0 (by simpa using c1.1) ho (by omega) (by omega)
   exact ⟨o',by rw [e]; rfl⟩
 obtain ⟨o',hgo⟩:=hgo
 have hall:goL 0 ls0 (rowsL (ltextB t wh))=(⟨t.ls,o',true,1,if t.has=true then 2 else 0,((ahead t wh).length:Int)+1⟩,0,0):=by
  rw [hR,goL_app _ _ _ _ (by rw [hgo]),hgo,goL_one]
  ·rw [List.length_map]
   unfold lineL
   rw [if_neg (by simp),if_neg (by decide),if_neg (by decide),if_pos rfl,if_neg (by simp)]
   simp
  ·unfold lineL
   rw [if_neg (by simp),if_neg (by decide),if_neg (by decide),if_pos rfl,if_neg (by simp)]
 unfold lparseL
 rw [hall,if_neg (by simp)]
 unfold endL
 dsimp only
 rw [if_neg (by simp)]
 have hex:t.has=true→((rowsL (ltextB t wh)).getD ((if t.has=true then (2:Int) else 0).toNat - 1) lw0).ns.getD 0 0 - 2208988800=t.ex:=fun hh=>by
  rw [hR,hA,hh,if_pos rfl,if_pos rfl]
  show t.ex+2208988800 - 2208988800=t.ex
  omega
 have ha3:((ahead t wh).length+1:Int).toNat - 1=(ahead t wh).length:=by omega
 have hgetL:(linesL (ltextB t wh)).getD (((ahead t wh).length+1:Int).toNat - 1) []=kHash++9 :: ntextL W:=by
  rw [hL,ha3]; simp
 have hhash:same5L (hashW (((linesL (ltextB t wh)).getD (((ahead t wh).length+1:Int).toNat - 1) []).drop 2)) (wordsOf (digest (hashedL (rowsL (ltextB t wh)))))=true:=by
  rw [hgetL,hown]
  exact same5_of fun k hk=>(hash_text W).2 k hk
 obtain ⟨ls,has,ex⟩:=t
 dsimp only at *
 cases has
 ·rw [if_neg (by simp),if_neg (fun q=>by rw [hhash] at q; cases q.2),if_neg (by simp),hx.1 rfl]
 ·have he:=hex rfl
  rw [he,if_neg (fun q=>by rw [hr] at q; cases q.2),if_neg (fun q=>by rw [hhash] at q; cases q.2),if_pos (by simp)]
end Go.Proofs.YtdjldmolhkkipaaGreatDoor.Pl
end
section
set_option linter.unusedVariables false
set_option linter.unusedSimpArgs false
namespace Go.Proofs.YtdjldmolhkkipaaGreatDoor.Pl
open Go Go.Proofs.YtdjldmolhkkipaaGreatDoor.Eng
theorem wd_good:∀ (l cur:List UInt8),(∀ c∈cur,blankB c=false)→∀ w∈wd cur l,w≠[]∧∀ c∈w,blankB c=false
 | [],cur,h=>by
  rw [wd]; split
  ·simp
  ·rename_i hc
   intro w hw
   simp only [List.mem_singleton] at hw
   subst hw; exact ⟨hc,h⟩
 | a :: r,cur,h=>by
  rw [wd]
  split
  ·split
   ·exact wd_good r [] (by simp)
   ·rename_i hc
    intro w hw
    cases hw with
    | head=>exact ⟨hc,h⟩
    | tail _ hw=>exact wd_good r [] (by simp) w hw
  ·rename_i hb
   exact wd_good r (cur++[a]) (fun c hc=>by
    rw [List.mem_append,List.mem_singleton] at hc
    rcases hc with hc | rfl
    ·exact h c hc
    ·simpa using hb)
theorem words_good (l:List UInt8):∀ w∈wordsL l,w≠[]∧∀ c∈w,blankB c=false:=wd_good l [] (by simp)
theorem spl_sum (c:UInt8):∀ l:List UInt8,((spl c l).map List.length).sum+(spl c l).length=l.length+1
 | []=>rfl
 | b :: r=>by
  have ih:=spl_sum c r
  rw [spl]
  split
  ·simp; omega
  ·have:=spl_ne c r
   match hs:spl c r with
   | []=>exact absurd hs this
   | h :: t=>rw [hs] at ih; simp at ih ⊢; omega
theorem lines_sum (s:List UInt8):((linesL s).map List.length).sum+(linesL s).length≤s.length+1:=by
 have h:=spl_sum 10 s
 have tr:∀ L:List (List UInt8),((L.map trimR).map List.length).sum≤(L.map List.length).sum:=fun L=>by
  induction L with
  | nil=>simp
  | cons x r ih=>have:=trimR_len x; simp at ih ⊢; omega
 have dl:∀ L:List (List UInt8),(L.dropLast.map List.length).sum≤(L.map List.length).sum:=fun L=>by
  induction L with
  | nil=>simp
  | cons x r ih =>
   cases r with
   | nil=>simp
   | cons y r=>simp at ih ⊢; omega
 unfold linesL
 split
 ·have h1:=tr (spl 10 s).dropLast
  have h2:=dl (spl 10 s)
  rw [List.length_map,List.length_dropLast]; omega
 ·have h1:=tr (spl 10 s)
  rw [List.length_map]; omega
end Go.Proofs.YtdjldmolhkkipaaGreatDoor.Pl
end
section
set_option linter.unusedVariables false
set_option linter.unusedSimpArgs false
namespace Go.Proofs.YtdjldmolhkkipaaGreatDoor.Pl
open Go Go.Proofs.YtdjldmolhkkipaaGreatDoor.Eng
theorem wrongL_bd (k:Nat) (l:LR) (a:Int):wrongL k l a=0∨(2≤wrongL k l a∧wrongL k l a≤9):=by
 unfold wrongL
 repeat' split
 all_goals first | exact .inl rfl | exact .inr (by decide)
theorem checkG_bd:∀ (p:List LR) (k:Nat) (a:Int),(checkG k a p).2.1=0∨(2≤(checkG k a p).2.1∧(checkG k a p).2.1≤9)
 | [],k,a=>.inl rfl
 | l :: r,k,a=>by
  rw [checkG]
  split
  ·exact wrongL_bd k l a
  ·exact checkG_bd r _ _
theorem addT_bd (ls:List LR) (l:LR):(addT ⟨ls,false,0⟩ l).2=0∨(2≤(addT ⟨ls,false,0⟩ l).2∧(addT ⟨ls,false,0⟩ l).2≤9):=by
 have h:∀ t:Tb,t.has=false→t.ex=0→(checkT t).2=0∨(2≤(checkT t).2∧(checkT t).2≤9):=fun t h1 h2=>by
  unfold checkT
  split
  ·exact checkG_bd _ _ _
  ·rw [h1,h2]; exact .inl rfl
 unfold addT
 split
 ·exact h _ rfl rfl
 ·exact .inl rfl
theorem addT_mem (ls:List LR) (l:LR):∀ x∈(addT ⟨ls,false,0⟩ l).1.ls,x∈ls∨x=l:=by
 unfold addT
 split
 ·exact fun x hx=>.inl hx
 ·intro x hx
  rcases List.mem_append.1 hx with hx | hx
  ·exact .inl hx
  ·exact .inr (List.mem_singleton.1 hx)
structure LG (s:LS) (k:Nat):Prop where
 c:(checkG 0 729 s.ls).2.1=0
 r:∀ x∈s.ls,x.2.2=false
 a1:0≤s.a1∧s.a1≤k
 a2:0≤s.a2∧s.a2≤k
 a3:0≤s.a3∧s.a3≤k
theorem LG.mono {s:LS} {k m:Nat} (h:LG s k) (hm:k≤m):LG s m:=⟨h.c,h.r,⟨h.a1.1,by have:=h.a1; omega⟩,⟨h.a2.1,by have:=h.a2; omega⟩,⟨h.a3.1,by have:=h.a3; omega⟩⟩
theorem LG.data {s:LS} {k:Nat} (h:LG s k) (n o:Int):LG (dataL s n o).1 k∧((dataL s n o).2=0∨(2≤(dataL s n o).2∧(dataL s n o).2≤9)):=by
 unfold dataL
 split
 ·split
  ·exact ⟨h,.inr (show (2:Int)≤9∧(9:Int)≤9 by decide)⟩
  ·exact ⟨⟨h.c,h.r,h.a1,h.a2,h.a3⟩,.inl rfl⟩
 ·split
  ·exact ⟨⟨h.c,h.r,h.a1,h.a2,h.a3⟩,.inr (show (2:Int)≤5∧(5:Int)≤9 by decide)⟩
  ·split
   ·exact ⟨⟨h.c,h.r,h.a1,h.a2,h.a3⟩,.inr (show (2:Int)≤6∧(6:Int)≤9 by decide)⟩
   ·refine ⟨⟨addT_good h.c,fun x hx=>?_,h.a1,h.a2,h.a3⟩,addT_bd _ _⟩
    rcases addT_mem _ _ x hx with hx | hx
    ·exact h.r x hx
    ·rw [hx]
theorem LG.line {s:LS} {k:Nat} (h:LG s k) (r:LW):LG (lineL s (k+1) r).1 (k+1)∧((lineL s (k+1) r).2=0∨(2≤(lineL s (k+1) r).2∧(lineL s (k+1) r).2≤9)):=by
 have hm:=h.mono (Nat.le_succ k)
 have two:((2:Int)=0∨(2≤(2:Int)∧(2:Int)≤9)):=.inr ⟨by decide,by decide⟩
 unfold lineL
 split
 ·exact ⟨hm,two⟩
 split
 ·split
  ·exact ⟨hm,two⟩
  ·exact ⟨⟨hm.c,hm.r,⟨by dsimp only; omega,by dsimp only; omega⟩,hm.a2,hm.a3⟩,.inl rfl⟩
 split
 ·split
  ·exact ⟨hm,two⟩
  ·exact ⟨⟨hm.c,hm.r,hm.a1,⟨by dsimp only; omega,by dsimp only; omega⟩,hm.a3⟩,.inl rfl⟩
 split
 ·split
  ·exact ⟨hm,two⟩
  ·exact ⟨⟨hm.c,hm.r,hm.a1,hm.a2,⟨by dsimp only; omega,by dsimp only; omega⟩⟩,.inl rfl⟩
 split
 ·exact hm.data _ _
 ·exact ⟨hm,.inl rfl⟩
theorem goL_good:∀ (R:List LW) (k:Nat) (s:LS),LG s k→((goL k s R).2.2=0∧(goL k s R).2.1=0∧LG (goL k s R).1 (k+R.length))∨((2≤(goL k s R).2.2∧(goL k s R).2.2≤9)∧1≤(goL k s R).2.1∧(goL k s R).2.1≤((k+R.length:Nat):Int))
 | [],k,s,h=>.inl ⟨rfl,rfl,h⟩
 | r :: R,k,s,h=>by
  rw [goL]
  have hl:=h.line r
  have e:k+(r :: R).length=k+1+R.length:=by rw [List.length_cons]; omega
  by_cases hc:(lineL s (k+1) r).2≠0
  ·rw [if_pos hc]
   refine .inr ⟨?_,by dsimp only; omega,by dsimp only; rw [e]; omega⟩
   rcases hl.2 with q | q
   ·exact absurd q hc
   ·exact q
  ·rw [if_neg hc,e]
   exact goL_good R (k+1) _ hl.1
theorem ls0_good:LG ls0 0:=⟨rfl,(fun x hx=>by cases hx),⟨by decide,by decide⟩,⟨by decide,by decide⟩,⟨by decide,by decide⟩⟩
theorem rows_len (s:List UInt8):(rowsL s).length=(linesL s).length:=by unfold rowsL; rw [List.length_map]
theorem lparse_good (s:List UInt8):((lparseL s).2.2=0∧(lparseL s).2.1=0∧rightT (lparseL s).1=true∧∀ x∈(lparseL s).1.ls,x.2.2=false) ∨
  ((lparseL s).1=tb0∧(1≤(lparseL s).2.1∧(lparseL s).2.1≤((linesL s).length:Int)+1)∧2≤(lparseL s).2.2∧(lparseL s).2.2≤9):=by
 have hg:=goL_good (rowsL s) 0 ls0 ls0_good
 rw [Nat.zero_add,rows_len] at hg
 unfold lparseL
 rcases hg with ⟨h1,h2,h3⟩ | ⟨h1,h2,h3⟩
 ·rw [if_neg (fun q=>q h1)]
  generalize (goL 0 ls0 (rowsL s)).1=g at *
  have ha2:=h3.a2
  have ha3:=h3.a3
  unfold endL
  split
  ·exact .inr ⟨rfl,⟨by dsimp only; omega,by dsimp only; rw [rows_len]; omega⟩,(show (2:Int)≤2 by decide),(show (2:Int)≤9 by decide)⟩
  split
  ·rename_i q
   exact .inr ⟨rfl,⟨by dsimp only; omega,by dsimp only; omega⟩,(show (2:Int)≤9 by decide),(show (9:Int)≤9 by decide)⟩
  split
  ·rename_i q
   exact .inr ⟨rfl,⟨by dsimp only; omega,by dsimp only; omega⟩,(show (2:Int)≤3 by decide),(show (3:Int)≤9 by decide)⟩
  ·rename_i q1 q2 q3
   refine .inl ⟨rfl,rfl,?_,?_⟩
   ·by_cases e:g.a2 > 0
    ·dsimp only; rw [if_pos e]
     cases hq:rightT ⟨g.ls,true,((rowsL s).getD (g.a2.toNat - 1) lw0).ns.getD 0 0 - 2208988800⟩
     ·exact absurd ⟨e,hq⟩ q2
     ·rfl
    ·dsimp only; rw [if_neg e]
     exact right_of h3.c (expB_no _)
   ·by_cases e:g.a2 > 0
    ·dsimp only; rw [if_pos e]; exact h3.r
    ·dsimp only; rw [if_neg e]; exact h3.r
 ·rw [if_pos (by omega)]
  exact .inr ⟨rfl,⟨h2,by dsimp only; omega⟩,h1.1,h1.2⟩
end Go.Proofs.YtdjldmolhkkipaaGreatDoor.Pl
end
section
set_option linter.unusedVariables false
set_option linter.unusedSimpArgs false
namespace Go.Proofs.YtdjldmolhkkipaaGreatDoor.Pl
open Go Go.Proofs.YtdjldmolhkkipaaGreatDoor.Eng
theorem wd_sum1:∀ (l c:List UInt8),((wd c l).map List.length).sum≤c.length+l.length
 | [],c=>by
  rw [wd]
  split <;> simp
 | b :: r,c=>by
  rw [wd]
  split
  ·have:=wd_sum1 r []
   split
   ·simp at this ⊢; omega
   ·simp at this ⊢; omega
  ·have:=wd_sum1 r (c++[b])
   simp at this ⊢; omega
theorem words_sum1 (l:List UInt8):((wordsL l).map List.length).sum≤l.length:=by
 have:=wd_sum1 l []
 simpa [wordsL] using this
theorem sum_pos1:∀ (ws:List (List UInt8)),(∀ w∈ws,w≠[])→ws.length≤(ws.map List.length).sum
 | [],_=>by simp
 | w :: r,h=>by
  have h1:=sum_pos1 r fun x hx=>h x (.tail _ hx)
  have h2:1≤w.length:=by
   cases w with
   | nil=>exact absurd rfl (h [] (.head _))
   | cons=>simp
  simp; omega
theorem words_len (l:List UInt8):(wordsL l).length≤l.length:=Nat.le_trans (sum_pos1 _ fun w hw=>(words_good l w hw).1) (words_sum1 l)
theorem mem_sum1:∀ (ws:List (List UInt8)) (w:List UInt8),w∈ws→w.length≤(ws.map List.length).sum
 | x :: r,w,h=>by
  rcases List.mem_cons.1 h with rfl | h
  ·simp
  ·have:=mem_sum1 r w h; simp; omega
theorem words_mem_len (l w:List UInt8) (h:w∈wordsL l):w.length≤l.length:=Nat.le_trans (mem_sum1 _ w h) (words_sum1 l)
theorem lines_len (l:List UInt8):(linesL l).length≤l.length+1:=(linesL_len l).1
theorem lines_mem_len (l w:List UInt8) (h:w∈linesL l):w.length≤l.length:=(linesL_len l).2 w h
theorem bare_len' (l:List UInt8):(bareL l).length≤l.length:=by unfold bareL; simp; omega
theorem row_len (x:List UInt8):(readL x).ws.flatten.length≤x.length∧(readL x).ws.length≤x.length:=by
 have key:∀ kd y many,y.length≤x.length→(numsR kd y many).ws.flatten.length≤x.length∧(numsR kd y many).ws.length≤x.length:=fun kd y many hy=>by
  unfold numsR
  dsimp only
  split
  ·rw [List.length_flatten]
   exact ⟨Nat.le_trans (words_sum1 y) hy,Nat.le_trans (words_len y) hy⟩
  ·exact ⟨Nat.zero_le _,Nat.zero_le _⟩
 unfold readL
 split
 ·exact ⟨Nat.zero_le _,Nat.zero_le _⟩
 ·split
  ·exact key _ _ _ (by rw [List.length_drop]; omega)
  ·split
   ·exact ⟨Nat.zero_le _,Nat.zero_le _⟩
   ·split
    ·exact ⟨Nat.zero_le _,Nat.zero_le _⟩
    ·exact key _ _ _ (bare_len' x)
def rowSum (R:List LW):Nat:=(R.map fun r=>r.ws.flatten.length).sum
theorem rowSum_cons (r:LW) (R:List LW):rowSum (r :: R)=r.ws.flatten.length+rowSum R:=by simp [rowSum]
theorem hashedK_len (kd:List UInt8):∀ R:List LW,(hashedK kd R).length≤rowSum R
 | []=>by simp [hashedK]
 | r :: R=>by
  have:=hashedK_len kd R
  rw [rowSum_cons]
  unfold hashedK at this ⊢
  rw [List.map_cons,List.flatten_cons,List.length_append]
  split
  ·omega
  ·simp at this ⊢; omega
theorem rowSum_lines:∀ L:List (List UInt8),rowSum (L.map readL)≤(L.map List.length).sum
 | []=>by simp [rowSum]
 | x :: L=>by
  have:=rowSum_lines L
  rw [List.map_cons,rowSum_cons,List.map_cons,List.sum_cons]
  have:=(row_len x).1
  omega
theorem hashed_len (s:List UInt8):(hashedL (rowsL s)).length≤3 * (s.length+1):=by
 have h1:=rowSum_lines (linesL s)
 have h2:=lines_sum s
 unfold hashedL rowsL
 rw [List.length_append,List.length_append]
 have:=hashedK_len kStamp ((linesL s).map readL)
 have:=hashedK_len kExp ((linesL s).map readL)
 have:=hashedK_len [] ((linesL s).map readL)
 omega
theorem rows_get (s:List UInt8) (i:Nat) (h:i < (rowsL s).length):(rowsL s).getD i lw0=readL ((linesL s).getD i []):=by
 have h':i < (linesL s).length:=by rwa [rows_len] at h
 rw [getD_in _ _ _ h,getD_in _ _ _ h']
 simp [rowsL]
theorem rnums_ok (kd y:List UInt8) (many:Nat) (h:(numsR kd y many).ok=true):(numsR kd y many).ns.length=many∧∀ i,i < many→0≤(numsR kd y many).ns.getD i 0∧(numsR kd y many).ns.getD i 0≤9223372036854775807:=by
 unfold numsR at h ⊢
 dsimp only at h ⊢
 rw [Bool.and_eq_true,beq_iff_eq] at h
 refine ⟨by rw [List.length_map]; exact h.2,fun i hi=>?_⟩
 rw [getD_in _ _ _ (by rw [List.length_map,h.2]; exact hi),List.getElem_map]
 exact numL_bd _
theorem row_data (x:List UInt8) (h:(readL x).ok=true) (hk:(readL x).kd=[]):(readL x).ns.length=2∧∀ i,i < 2→0≤(readL x).ns.getD i 0∧(readL x).ns.getD i 0≤9223372036854775807:=by
 unfold readL at h hk ⊢
 split at hk
 ·cases hk
 ·rename_i e0
  rw [if_neg e0] at h ⊢
  split at hk
  ·rename_i e1
   have hk:x.take 2=[]:=hk
   rw [hk] at e1; rcases e1 with e1 | e1 <;> cases e1
  ·rename_i e1
   rw [if_neg e1] at h ⊢
   split at hk
   ·cases hk
   ·rename_i e2
    rw [if_neg e2] at h ⊢
    split at hk
    ·cases hk
    ·rename_i e3
     rw [if_neg e3] at h ⊢
     exact rnums_ok _ _ _ h
theorem row_exp (x:List UInt8) (h:(readL x).ok=true) (hk:(readL x).kd=kExp):(readL x).ns.length=1∧0≤(readL x).ns.getD 0 0∧(readL x).ns.getD 0 0≤9223372036854775807:=by
 unfold readL at h hk ⊢
 split at hk
 ·exact absurd (show kRem=kExp from hk) (by decide)
 ·rename_i e0
  rw [if_neg e0] at h ⊢
  split at hk
  ·rename_i e1
   rw [if_pos e1] at h ⊢
   have:=rnums_ok _ _ _ h
   exact ⟨this.1,this.2 0 (by omega)⟩
  ·split at hk
   ·exact absurd (show kHash=kExp from hk) (by decide)
   ·split at hk
    ·exact absurd (show kRem=kExp from hk) (by decide)
    ·have hk:([]:List UInt8)=kExp:=hk
     cases hk
theorem row_hash (x:List UInt8) (hk:(readL x).kd=kHash):x.take 2=kHash:=by
 unfold readL at hk
 split at hk
 ·exact absurd (show kRem=kHash from hk) (by decide)
 ·split at hk
  ·exact hk
  ·split at hk
   ·assumption
   ·split at hk
    ·exact absurd (show kRem=kHash from hk) (by decide)
    ·have hk:([]:List UInt8)=kHash:=hk
     cases hk
structure LI (R:List LW) (j:Nat) (s:LS):Prop where
 off:0≤s.off∧s.off≤9223372036854775807
 len:s.ls.length≤j
 e:s.a2 > 0→s.a2≤(j:Int)∧(R.getD (s.a2.toNat - 1) lw0).kd=kExp∧(R.getD (s.a2.toNat - 1) lw0).ok=true
 h:s.a3 > 0→s.a3≤(j:Int)∧(R.getD (s.a3.toNat - 1) lw0).kd=kHash
theorem addT_len (ls:List LR) (l:LR):(addT ⟨ls,false,0⟩ l).1.ls.length≤ls.length+1:=by
 unfold addT
 split
 ·dsimp only; omega
 ·dsimp only; rw [List.length_append]; exact Nat.le_refl _
theorem data_a (s:LS) (n o:Int):(dataL s n o).1.a1=s.a1∧(dataL s n o).1.a2=s.a2∧(dataL s n o).1.a3=s.a3:=by
 unfold dataL
 repeat' split
 all_goals exact ⟨rfl,rfl,rfl⟩
theorem data_b (s:LS) (n o:Int):((dataL s n o).1.off=s.off∨(dataL s n o).1.off=o)∧(dataL s n o).1.ls.length≤s.ls.length+1:=by
 unfold dataL
 have:=addT_len s.ls ((n - 2208988800) / 86400 - 1,o - s.off,false)
 repeat' split
 all_goals first | exact ⟨.inl rfl,by dsimp only; omega⟩ | exact ⟨.inr rfl,by dsimp only; omega⟩
theorem LI.line {R:List LW} {j:Nat} {s:LS} (h:LI R j s) (hr:(R.getD j lw0).ok=true→(R.getD j lw0).kd=[]→0≤(R.getD j lw0).ns.getD 1 0∧(R.getD j lw0).ns.getD 1 0≤9223372036854775807):LI R (j+1) (lineL s (j+1) (R.getD j lw0)).1:=by
 have up:LI R (j+1) s:=⟨h.off,by have:=h.len; omega,fun q=>⟨by have:=(h.e q).1; omega,(h.e q).2⟩,fun q=>⟨by have:=(h.h q).1; omega,(h.h q).2⟩⟩
 have ej:((j+1:Nat):Int).toNat - 1=j:=by omega
 unfold lineL
 split
 ·exact up
 rename_i ok
 split
 ·split
  ·exact up
  ·exact ⟨up.off,up.len,up.e,up.h⟩
 split
 ·rename_i kd
  split
  ·exact up
  ·exact ⟨up.off,up.len,fun _=>⟨by dsimp only; omega,by dsimp only; rw [ej]; exact kd,by dsimp only; rw [ej]; simpa using ok⟩,up.h⟩
 split
 ·rename_i kd
  split
  ·exact up
  ·exact ⟨up.off,up.len,up.e,fun _=>⟨by dsimp only; omega,by dsimp only; rw [ej]; exact kd⟩⟩
 split
 ·rename_i kd
  obtain ⟨d1,d2,d3⟩:=data_a s ((R.getD j lw0).ns.getD 0 0) ((R.getD j lw0).ns.getD 1 0)
  obtain ⟨d4,d5⟩:=data_b s ((R.getD j lw0).ns.getD 0 0) ((R.getD j lw0).ns.getD 1 0)
  refine ⟨?_,by have:=h.len; omega,?_,?_⟩
  ·rcases d4 with d4 | d4
   ·rw [d4]; exact h.off
   ·rw [d4]; exact hr (by simpa using ok) kd
  ·rw [d2]; exact up.e
  ·rw [d3]; exact up.h
 ·exact up
theorem ls0_LI (R:List LW):LI R 0 ls0:=⟨⟨by decide,by decide⟩,Nat.le_refl _,fun q=>absurd q (by decide),fun q=>absurd q (by decide)⟩
end Go.Proofs.YtdjldmolhkkipaaGreatDoor.Pl
end
section
set_option linter.unusedVariables false
set_option linter.unusedSimpArgs false
namespace Go.Proofs.YtdjldmolhkkipaaGreatDoor.Pl
open Go Go.Proofs.YtdjldmolhkkipaaGreatDoor.Eng
structure RX where
 k:Int
 ok:Bool
 ws:List (List UInt8)
 one:Int
 two:Int
def rx0:RX:=⟨0,false,[],0,0⟩
def rkind (k:Int) (y:List UInt8):RX:=if (wordsL y).length≠1 then ⟨k,false,[],0,0⟩ else ⟨k,(numL ((wordsL y).getD 0 [])).2,wordsL y,(numL ((wordsL y).getD 0 [])).1,0⟩
def rdata (y:List UInt8):RX:=if (wordsL y).length≠2 then ⟨5,false,[],0,0⟩ else ⟨5,(numL ((wordsL y).getD 0 [])).2 && (numL ((wordsL y).getD 1 [])).2,wordsL y,(numL ((wordsL y).getD 0 [])).1,(numL ((wordsL y).getD 1 [])).1⟩
def rreadL (s:List UInt8):RX :=
 if wordsL s=[] then ⟨0,true,[],0,0⟩
 else if s.take 2=kHash then ⟨3,hashOk (s.drop 2),[s.drop 2],0,0⟩
 else if s.take 2=kStamp then rkind 1 (s.drop 2)
 else if s.take 2=kExp then rkind 2 (s.drop 2)
 else if preB ((wordsL s).getD 0 []) kRem=true then ⟨4,true,[],0,0⟩
 else rdata (bareL s)
structure RR (r:LW) (x:RX):Prop where
 ok:x.ok=r.ok
 k1:x.k=1↔r.kd=kStamp
 k2:x.k=2↔r.kd=kExp
 k3:x.k=3↔r.kd=kHash
 k5:x.k=5↔r.kd=[]
 ws:r.ok=true→x.k≠3→x.ws=r.ws
 no:r.ok=false→r.ws=[]
 one:r.ok=true→(x.k=1∨x.k=2∨x.k=5)→x.one=r.ns.getD 0 0
 two:r.ok=true→x.k=5→x.two=r.ns.getD 1 0
def KK (k:Int) (kd:List UInt8):Prop:=(k=1↔kd=kStamp)∧(k=2↔kd=kExp)∧(k=3↔kd=kHash)∧(k=5↔kd=[])
instance (k:Int) (kd:List UInt8):Decidable (KK k kd):=inferInstanceAs (Decidable (_∧_))
theorem RR.of {r:LW} {x:RX} (c:KK x.k r.kd) (ok:x.ok=r.ok) (ws:r.ok=true→x.k≠3→x.ws=r.ws) (no:r.ok=false→r.ws=[]) (one:r.ok=true→(x.k=1∨x.k=2∨x.k=5)→x.one=r.ns.getD 0 0) (two:r.ok=true→x.k=5→x.two=r.ns.getD 1 0):RR r x :=
 ⟨ok,c.1,c.2.1,c.2.2.1,c.2.2.2,ws,no,one,two⟩
theorem RR.bad {r:LW} {x:RX} (c:KK x.k r.kd) (h1:x.ok=false) (h2:r.ok=false) (no:r.ws=[]):RR r x :=
 RR.of c (h1.trans h2.symm) (fun z=>absurd (h2.symm.trans z) (by decide)) (fun _=>no) (fun z=>absurd (h2.symm.trans z) (by decide)) (fun z=>absurd (h2.symm.trans z) (by decide))
theorem nums_no (kd y:List UInt8) (n:Nat) (h:(numsR kd y n).ok=false):(numsR kd y n).ws=[]:=by
 unfold numsR at h ⊢
 dsimp only at h ⊢
 rw [if_neg]
 intro ⟨a,b⟩
 rw [a,b] at h
 simp at h
theorem rkind_RR (kd:List UInt8) (k:Int) (y:List UInt8) (hk:(k=1∧kd=kStamp)∨(k=2∧kd=kExp)):RR (numsR kd y 1) (rkind k y):=by
 have e:∀ {P:RX→Prop},((wordsL y).length≠1→P ⟨k,false,[],0,0⟩)→(∀ w,wordsL y=[w]→P ⟨k,(numL w).2,[w],(numL w).1,0⟩)→P (rkind k y):=fun a b=>by
  unfold rkind
  split
  ·rename_i q; exact a q
  ·rename_i q
   obtain ⟨w,hw⟩:∃ w,wordsL y=[w]:=by
    match h:wordsL y,(show (wordsL y).length=1 by omega) with
    | [w],_=>exact ⟨w,rfl⟩
   rw [hw]; exact b w hw
 have kk:(numsR kd y 1).kd=kd:=rfl
 have c:KK k kd:=by
  rcases hk with ⟨rfl,rfl⟩ | ⟨rfl,rfl⟩ <;> decide
 have n5:k≠5:=by
  rcases hk with ⟨rfl,_⟩ | ⟨rfl,_⟩ <;> decide
 refine e (fun q=>?_) (fun w hw=>?_)
 ·have hno:(numsR kd y 1).ok=false:=by
   unfold numsR
   dsimp only
   rw [show ((wordsL y).length == 1)=false by simpa using q,Bool.and_false]
  exact RR.bad c rfl hno (nums_no _ _ _ hno)
 ·have hok:(numsR kd y 1).ok=(numL w).2:=by unfold numsR; rw [hw]; simp
  refine RR.of c hok.symm (fun z _=>?_) (nums_no _ _ _) (fun z _=>?_) (fun z q=>absurd q n5)
  ·rw [hok] at z
   unfold numsR; rw [hw]; simp [z]
  ·unfold numsR; rw [hw]; rfl
theorem rdata_RR (y:List UInt8):RR (numsR [] y 2) (rdata y):=by
 have e:∀ {P:RX→Prop},((wordsL y).length≠2→P ⟨5,false,[],0,0⟩)→(∀ w v,wordsL y=[w,v]→P ⟨5,(numL w).2 && (numL v).2,[w,v],(numL w).1,(numL v).1⟩)→P (rdata y):=fun a b=>by
  unfold rdata
  split
  ·rename_i q; exact a q
  ·rename_i q
   obtain ⟨w,v,hw⟩:∃ w v,wordsL y=[w,v]:=by
    match h:wordsL y,(show (wordsL y).length=2 by omega) with
    | [w,v],_=>exact ⟨w,v,rfl⟩
   rw [hw]; exact b w v hw
 have kk:(numsR [] y 2).kd=[]:=rfl
 refine e (fun q=>?_) (fun w v hw=>?_)
 ·have hno:(numsR [] y 2).ok=false:=by
   unfold numsR
   dsimp only
   rw [show ((wordsL y).length == 2)=false by simpa using q,Bool.and_false]
  exact RR.bad (show KK 5 [] by decide) rfl hno (nums_no _ _ _ hno)
 ·have hok:(numsR [] y 2).ok=((numL w).2 && (numL v).2):=by unfold numsR; rw [hw]; simp
  refine RR.of (show KK 5 [] by decide) hok.symm (fun z _=>?_) (nums_no _ _ _) (fun z _=>?_) (fun z _=>?_)
  ·rw [hok,Bool.and_eq_true] at z
   unfold numsR; rw [hw]; simp [z.1,z.2]
  ·unfold numsR; rw [hw]; rfl
  ·unfold numsR; rw [hw]; rfl
theorem read_RR (s:List UInt8):RR (readL s) (rreadL s):=by
 unfold readL rreadL
 by_cases e0:wordsL s=[]
 ·rw [if_pos e0,if_pos e0]
  exact RR.of (show KK 0 kRem by decide) rfl (fun _ _=>rfl) (fun z=>rfl) (fun _ z=>absurd z (by decide)) (fun _ z=>absurd z (by decide))
 rw [if_neg e0,if_neg e0]
 by_cases e1:s.take 2=kStamp
 ·rw [if_pos (.inl e1),if_neg (by rw [e1]; decide),if_pos e1,e1]
  exact rkind_RR _ _ _ (.inl ⟨rfl,rfl⟩)
 by_cases e2:s.take 2=kExp
 ·rw [if_pos (.inr e2),if_neg (by rw [e2]; decide),if_neg e1,if_pos e2,e2]
  exact rkind_RR _ _ _ (.inr ⟨rfl,rfl⟩)
 rw [if_neg (fun z=>z.elim e1 e2)]
 by_cases e3:s.take 2=kHash
 ·rw [if_pos e3,if_pos e3]
  exact RR.of (show KK 3 kHash by decide) rfl (fun _ z=>absurd rfl z) (fun _=>rfl) (fun _ z=>absurd (show (3:Int)=1∨(3:Int)=2∨(3:Int)=5 from z) (by decide)) (fun _ z=>absurd (show (3:Int)=5 from z) (by decide))
 rw [if_neg e3,if_neg e3,if_neg e1,if_neg e2]
 by_cases e4:preB ((wordsL s).getD 0 []) kRem=true
 ·rw [if_pos e4,if_pos e4]
  exact RR.of (show KK 4 kRem by decide) rfl (fun _ _=>rfl) (fun z=>rfl) (fun _ z=>absurd z (by decide)) (fun _ z=>absurd z (by decide))
 rw [if_neg e4,if_neg e4]
 exact rdata_RR _
structure AI (X:List RX) (k:Int) (j:Nat) (a:Int):Prop where
 no:a≤0→∀ i,i < j→(X.getD i rx0).k≠k
 yes:a > 0→a≤(j:Int)∧(X.getD (a.toNat - 1) rx0).k=k∧∀ i,i+1 < a.toNat→(X.getD i rx0).k≠k
def findX (k:Int) (X:List RX):Int:=if X.findIdx (fun x=>x.k == k) < X.length then (X.findIdx (fun x=>x.k == k):Int) else -1
theorem find_at (k:Int) (X:List RX) (i:Nat) (h:i < X.length) (hk:(X.getD i rx0).k=k) (hb:∀ m,m < i→(X.getD m rx0).k≠k):findX k X=i:=by
 have e:X.findIdx (fun x=>x.k == k)=i:=by
  rw [List.findIdx_eq h]
  rw [getD_in _ _ _ h] at hk
  refine ⟨by simp [hk],fun m hm=>?_⟩
  have:=hb m hm
  rw [getD_in _ _ _ (by omega)] at this
  simp [this]
 unfold findX
 rw [e,if_pos h]
theorem find_no (k:Int) (X:List RX) (hb:∀ m,m < X.length→(X.getD m rx0).k≠k):findX k X=-1:=by
 unfold findX
 rw [if_neg]
 intro h
 have:=List.findIdx_getElem (w:=h)
 have hb:=hb _ h
 rw [getD_in _ _ _ h] at hb
 simp only [beq_iff_eq] at this
 exact hb this
theorem AI.find {X:List RX} {k:Int} {a:Int} (h:AI X k X.length a):findX k X=if a > 0 then a - 1 else -1:=by
 by_cases q:a > 0
 ·obtain ⟨h1,h2,h3⟩:=h.yes q
  rw [if_pos q,find_at k X (a.toNat - 1) (by omega) h2 (fun m hm=>h3 m (by omega))]
  omega
 ·rw [if_neg q]; exact find_no k X (h.no (by omega))
theorem AI.cur {X:List RX} {k:Int} {j:Nat} {a:Int} (h:AI X k j a) (hj:j < X.length) (hk:(X.getD j rx0).k=k):findX k X=if a > 0 then a - 1 else (j:Int):=by
 by_cases q:a > 0
 ·obtain ⟨h1,h2,h3⟩:=h.yes q
  rw [if_pos q,find_at k X (a.toNat - 1) (by omega) h2 (fun m hm=>h3 m (by omega))]
  omega
 ·rw [if_neg q]; exact find_at k X j hj hk (h.no (by omega))
theorem AI.next {X:List RX} {k:Int} {j:Nat} {a:Int} (h:AI X k j a) (hk:(X.getD j rx0).k≠k):AI X k (j+1) a:=by
 refine ⟨fun q i hi=>?_,fun q=>?_⟩
 ·by_cases e:i=j
  ·rw [e]; exact hk
  ·exact h.no q i (by omega)
 ·obtain ⟨h1,h2,h3⟩:=h.yes q
  exact ⟨by omega,h2,h3⟩
theorem AI.here {X:List RX} {k:Int} {j:Nat} {a:Int} (h:AI X k j a) (ha:¬ a > 0) (hk:(X.getD j rx0).k=k):AI X k (j+1) ((j+1:Nat):Int):=by
 refine ⟨fun q=>by omega,fun _=>⟨Int.le_refl _,?_,fun i hi=>h.no (by omega) i (by omega)⟩⟩
 rw [show ((j+1:Nat):Int).toNat - 1=j by omega]; exact hk
theorem AI.zero (X:List RX) (k:Int):AI X k 0 0:=⟨fun _ i hi=>absurd hi (Nat.not_lt_zero i),fun q=>absurd q (by decide)⟩
def hashX (X:List RX) (k:Int):List UInt8:=(X.map fun x=>if x.k=k∧x.ok=true then x.ws.flatten else []).flatten
theorem hashX_eq (L:List (List UInt8)) (k:Int) (kd:List UInt8) (hk:(k=1∧kd=kStamp)∨(k=2∧kd=kExp)∨(k=5∧kd=[])):hashX (L.map rreadL) k=hashedK kd (L.map readL):=by
 unfold hashX hashedK
 rw [List.map_map,List.map_map]
 congr 1
 refine List.map_congr_left fun s _=>?_
 have h:=read_RR s
 simp only [Function.comp]
 have hkk:(rreadL s).k=k↔(readL s).kd=kd:=by
  rcases hk with ⟨rfl,rfl⟩ | ⟨rfl,rfl⟩ | ⟨rfl,rfl⟩
  ·exact h.k1
  ·exact h.k2
  ·exact h.k5
 have hk3:k≠3:=by rcases hk with ⟨rfl,_⟩ | ⟨rfl,_⟩ | ⟨rfl,_⟩ <;> decide
 by_cases e:(readL s).kd=kd
 ·rw [if_pos e]
  have ek:=hkk.2 e
  cases ok:(readL s).ok
  ·rw [if_neg (fun z=>by have:=z.2; rw [h.ok,ok] at this; cases this),h.no ok]; rfl
  ·rw [if_pos ⟨ek,by rw [h.ok,ok]⟩,h.ws ok (by rw [ek]; exact hk3)]
 ·rw [if_neg e,if_neg (fun z=>e (hkk.1 z.1))]
end Go.Proofs.YtdjldmolhkkipaaGreatDoor.Pl
end
section
set_option linter.unusedVariables false
set_option linter.unusedSimpArgs false
namespace Go.Proofs.YtdjldmolhkkipaaGreatDoor
open Go Go.Proofs.YtdjldmolhkkipaaGreatDoor.Eng Go.Proofs.YtdjldmolhkkipaaGreatDoor.Pl
abbrev T20:Type:=Int×Int×Int×Int×Int×Int×Int×Int×Int×Int×Int×Int×Int×Int×Int×Int×Int×Int×Int×Int×Unit
abbrev T5:Type:=Int×Int×Int×Int×Int×Unit
theorem wi_or (x y:W32):wu32 ((BitVec.toNat (BitVec.ofInt 32 (wi x) ||| BitVec.ofInt 32 (wi y)):Nat):Int)=wi (x ||| y):=by rw [ofInt_wi,ofInt_wi,wu32_wi]
theorem wi_and (x y:W32):wu32 ((BitVec.toNat (BitVec.ofInt 32 (wi x) &&& BitVec.ofInt 32 (wi y)):Nat):Int)=wi (x &&& y):=by rw [ofInt_wi,ofInt_wi,wu32_wi]
theorem wi_xor (x y:W32):wu32 ((BitVec.toNat (BitVec.ofInt 32 (wi x) ^^^ BitVec.ofInt 32 (wi y)):Nat):Int)=wi (x ^^^ y):=by rw [ofInt_wi,ofInt_wi,wu32_wi]
theorem sRot (x:W32) (k:Nat) (h:k < 32) {K} (hk:K (wi (rotl x k))):Xq08 (wi x) (k:Int) K:=by
 unfold Xq08 Yq08
 have e1:wu64 ((BitVec.toNat (BitVec.ofInt 64 (wu64 (k:Int)) &&& BitVec.ofInt 64 31):Nat):Int)=(k:Int):=by
  rw [wu64_in (n:=(k:Int)) (by omega) (by omega)]
  have:(BitVec.ofInt 64 (k:Int) &&& BitVec.ofInt 64 31)=BitVec.ofNat 64 k:=by
   have:∀ k:Fin 32,(BitVec.ofInt 64 ((k.val:Nat):Int) &&& BitVec.ofInt 64 31)=BitVec.ofNat 64 k.val:=by decide
   exact this ⟨k,h⟩
  rw [this,BitVec.toNat_ofNat,Nat.mod_eq_of_lt (by omega),wu64_in (by omega) (by omega)]
 rw [e1]
 have e2:Min.min (Int.toNat (k:Int)) 32=k:=by rw [Int.toNat_natCast]; omega
 have e3:wu64 (32 - (k:Int))=((32 - k:Nat):Int):=by rw [wu64_in (by omega) (by omega)]; omega
 have e4:Min.min (Int.toNat ((32 - k:Nat):Int)) 32=32 - k:=by rw [Int.toNat_natCast]; omega
 simp only [lt,e2,e3]
 refine ifF (by omega) ?_
 rw [e4,wi_shl,wi_shr,wi_or]
 exact hk
theorem sStep (s:St5) (f k w:W32) {K:Int→Int→Int→Int→Int→Prop} (h:K (wi (stepS s f k w).a) (wi (stepS s f k w).b) (wi (stepS s f k w).c) (wi (stepS s f k w).d) (wi (stepS s f k w).e)) :
  Xq1i (wi f) (wi k) (wi w) (wi s.a) (wi s.b) (wi s.c) (wi s.d) (wi s.e) K:=by
 unfold Xq1i Yq1i
 refine sRot s.a 5 (by omega) ?_
 simp only [lt,wi_add]
 exact sRot s.b 30 (by omega) h
theorem sRounds (ws:List W32) (hl:ws.length=80) (s:St5) {K:Int→Int→Int→Int→Int→Prop} (a1 a2 a3 a4 a5 k6 k16) (l:List V) (hw:∀ i,i < 80→l[i]? = some (cw (ws.getD i 0)))
  (h:K (wi (addS (roundsN ws s 80) s).a) (wi (addS (roundsN ws s 80) s).b) (wi (addS (roundsN ws s 80) s).c) (wi (addS (roundsN ws s 80) s).d) (wi (addS (roundsN ws s 80) s).e)) :
  lp (Lq1a_3 Xq1i K a1 a2 a3 a4 a5 k6 k16) (((),(),l,0,()),(wi s.a,wi s.b,wi s.c,wi s.d,wi s.e,()),(wi s.a,wi s.b,wi s.c,wi s.d,wi s.e,()),()):=by
 refine lp_at (fun j=>(((),(),l,(j:Int),()),(wi (roundsN ws s j).a,wi (roundsN ws s j).b,wi (roundsN ws s j).c,wi (roundsN ws s j).d,wi (roundsN ws s j).e,()),(wi s.a,wi s.b,wi s.c,wi s.d,wi s.e,()),())) 80 rfl fun n hn k hk=>?_
 unfold Lq1a_3
 simp only [decide_eq_true_eq]
 by_cases e:n=80
 ·subst e
  refine ifF (by omega) ?_
  simp only [wi_add]
  exact h
 ·have hn':n < 80:=by omega
  have hk':=hk hn'
  refine ifT (by omega) (ifT (by omega) ?_)
  rw [Int.toNat_natCast,Nat.mul_one,hw n hn']
  simp only [Eng.asInt,if_true,lt,wi_xor,wi_and,wi_or]
  have ed:w64 (Int.tdiv (n:Int) 20)=((n / 20:Nat):Int):=by
   rw [Int.tdiv_eq_ediv_of_nonneg (by omega),w64_in (by omega) (by omega)]; omega
  have e1:w64 ((n:Int)+1)=((n+1:Nat):Int):=by rw [w64_in (by omega) (by omega)]; omega
  simp only [ed,e1,beq_iff_eq]
  have q1:(1518500249:Int)=wi 1518500249#32:=by decide
  have q2:(1859775393:Int)=wi 1859775393#32:=by decide
  have q3:(2400959708:Int)=wi 2400959708#32:=by decide
  have q4:(3395469782:Int)=wi 3395469782#32:=by decide
  rw [q1,q2,q3,q4]
  have hs:roundsN ws s (n+1)=stepS (roundsN ws s n) (fAt n (roundsN ws s n).b (roundsN ws s n).c (roundsN ws s n).d) (kAt n) (ws.getD n 0):=rfl
  simp only [hs] at hk'
  refine ifC (fun h0=>?_) fun h0=>ifC (fun h1=>?_) fun h1=>ifC (fun h2=>?_) fun h2=>?_
  ·have:n < 20:=by omega
   refine sStep (roundsN ws s n) _ _ _ ?_
   simp only [fAt,kAt,if_pos this] at hk'; exact hk'
  ·have g0:¬ n < 20:=by omega
   have g1:n < 40:=by omega
   refine sStep (roundsN ws s n) _ _ _ ?_
   simp only [fAt,kAt,if_neg g0,if_pos g1] at hk'; exact hk'
  ·have g0:¬ n < 20:=by omega
   have g1:¬ n < 40:=by omega
   have g2:n < 60:=by omega
   refine sStep (roundsN ws s n) _ _ _ ?_
   simp only [fAt,kAt,if_neg g0,if_neg g1,if_pos g2] at hk'; exact hk'
  ·have g0:¬ n < 20:=by omega
   have g1:¬ n < 40:=by omega
   have g2:¬ n < 60:=by omega
   refine sStep (roundsN ws s n) _ _ _ ?_
   simp only [fAt,kAt,if_neg g0,if_neg g1,if_neg g2] at hk'; exact hk'
end Go.Proofs.YtdjldmolhkkipaaGreatDoor
end
section
set_option linter.unusedVariables false
set_option linter.unusedSimpArgs false
namespace Go.Proofs.YtdjldmolhkkipaaGreatDoor
open Go Go.Proofs.YtdjldmolhkkipaaGreatDoor.Eng Go.Proofs.YtdjldmolhkkipaaGreatDoor.Pl
def wf (l:List W32) (i:Nat):Int:=wi (l.getD i 0)
theorem wf_next (l:List W32) (x:W32):updF (wf l) l.length (wi x)=wf (l++[x]):=by
 funext j
 unfold updF wf
 by_cases h:j=l.length
 ·subst h; simp [List.getD_eq_getElem?_getD]
 ·rw [if_neg h]
  by_cases h':j < l.length
  ·simp only [List.getD_eq_getElem?_getD,List.getElem?_append_left h']
  ·simp only [List.getD_eq_getElem?_getD]
   rw [List.getElem?_eq_none (by omega),List.getElem?_eq_none (by simp; omega)]
theorem sMix (b:List UInt8) (s:St5) {K:Int→Int→Int→Int→Int→Prop} (a1 a2 a3 a4 a5 k6)
  (h:K (wi (addS (roundsN (wordsN b 64) s 80) s).a) (wi (addS (roundsN (wordsN b 64) s 80) s).b) (wi (addS (roundsN (wordsN b 64) s 80) s).c) (wi (addS (roundsN (wordsN b 64) s 80) s).d) (wi (addS (roundsN (wordsN b 64) s 80) s).e)) :
  lp (Lq1a_2 Xq08 Xq1i K a1 a2 a3 a4 a5 k6) (((),(),16,()),(wi s.a,wi s.b,wi s.c,wi s.d,wi s.e,()),agL .u32 80 (wf (first b 16)),()):=by
 refine lp_at (fun j=>(((),(),((16+j:Nat):Int),()),(wi s.a,wi s.b,wi s.c,wi s.d,wi s.e,()),agL .u32 80 (wf (wordsN b j)),())) 64 rfl fun n hn k hk=>?_
 unfold Lq1a_2
 simp only [decide_eq_true_eq]
 by_cases e:n=64
 ·subst e
  refine ifF (by omega) ?_
  simp only [agL,List.getElem?_cons_zero,Eng.asAgg]
  refine ifT ⟨by simp,by simp [isC,Value.oneCell']⟩ ?_
  exact sRounds (wordsN b 64) (by rw [wordsN_len]) s _ _ _ _ _ _ _ _ (fun i hi=>by simp [hi,wf]) h
 ·have hn':n < 64:=by omega
  have hk':=hk hn'
  have hl:=wordsN_len b n
  have g:∀ q:Nat,q≤16→w64 (((16+n:Nat):Int) - (q:Int))=((16+n - q:Nat):Int):=fun q hq=>by rw [w64_in (by omega) (by omega)]; omega
  have g3:=g 3 (by omega)
  have g8:=g 8 (by omega)
  have g14:=g 14 (by omega)
  have g16:=g 16 (by omega)
  simp only [show ((3:Nat):Int)=3 from rfl,show ((8:Nat):Int)=8 from rfl,show ((14:Nat):Int)=14 from rfl,show ((16:Nat):Int)=16 from rfl] at g3 g8 g14 g16
  rw [g3,g8,g14,g16]
  simp only [Int.toNat_natCast,Nat.mul_one,Nat.zero_add]
  refine ifT (by omega) (ifT (by omega) (asI (by omega) (ifT (by omega) (asI (by omega) (ifT (by omega) (asI (by omega) ?_))))))
  simp only [lt,wf,wi_xor]
  refine ifT (by omega) (asI (by omega) ?_)
  simp only [wf,wi_xor]
  refine sRot _ 1 (by omega) ?_
  refine ifT (by omega) (ifT (Nat.zero_lt_one) (ifT (by show 16+n+1≤80; omega) ?_))
  have es:=@agL_set .u32 80 (wf (wordsN b n)) (16+n) (wi (rotl ((wordsN b n).getD (16+n - 3) 0 ^^^ (wordsN b n).getD (16+n - 8) 0 ^^^ (wordsN b n).getD (16+n - 14) 0 ^^^ (wordsN b n).getD (16+n - 16) 0) 1)) (by omega)
  have e2:w64 (((16+n:Nat):Int)+1)=((16+(n+1):Nat):Int):=by rw [w64_in (by omega) (by omega)]; omega
  have en:wf (wordsN b (n+1))=updF (wf (wordsN b n)) (16+n) (wi (rotl ((wordsN b n).getD (16+n - 3) 0 ^^^ (wordsN b n).getD (16+n - 8) 0 ^^^ (wordsN b n).getD (16+n - 14) 0 ^^^ (wordsN b n).getD (16+n - 16) 0) 1)):=by
   rw [← hl,wf_next]; rfl
  rw [en] at hk'
  rw [e2]
  refine (congrArg k ?_).mp hk'
  rw [← es]
def BV (l:List UInt8):List V:=l.map cb
theorem BV_get (l:List UInt8) (i:Nat) (h:i < l.length):getC (BV l) i 0=some (cb l[i]):=by
 simp [getC,BV,V.cells,h]
theorem asB {l:List UInt8} {i:Nat} (h:i < l.length) {F:Prop} {K:Int→Prop} (hk:K (bi l[i])):Eng.asInt .u8 (getC (BV l) i 0) F K:=by
 rw [BV_get l i h]; simpa [Eng.asInt] using hk
theorem BV_cut (l:List UInt8) (a n:Nat):cutL (BV l) a n=BV ((l.drop a).take n):=by simp [cutL,BV]
theorem BV_len (l:List UInt8):(BV l).length=l.length:=by simp [BV]
theorem word_snoc (l:List UInt8) (c:UInt8):word (l++[c]) 0=(word l 0 <<< 8 ||| BitVec.ofNat 32 c.toNat):=by simp [word]
theorem sFour (b:List UInt8) (i:Nat) (hi:i < 16) (hb:b.length=64) (X) {K:Int→Int→Int→Int→Int→Prop} (a1 a2 a3 a4 a5) (k6)
  (h:k6 (((),BV b,(),((i+1:Nat):Int),()),X,agL .u32 80 (wf (first b (i+1))),())) :
  lp (Lq1a_1 K a1 a2 a3 a4 a5 k6) (((),BV b,(),(i:Int),(i:Int),BV ((b.drop (4 * i)).take 4),4,0,()),X,agL .u32 80 (wf (first b i)),()):=by
 have hl:((b.drop (4 * i)).take 4).length=4:=by simp; omega
 have hfl:(first b i).length=i:=by simp [first]
 refine lp_at (fun j=>(((),BV b,(),(i:Int),(i:Int),BV ((b.drop (4 * i)).take 4),4,(j:Int),()),X,agL .u32 80 (updF (wf (first b i)) i (wi (word (((b.drop (4 * i)).take 4).take j) 0))),())) 4 ?_ fun n hn k hk=>?_
 ·have:updF (wf (first b i)) i (wi (word (((b.drop (4 * i)).take 4).take 0) 0))=wf (first b i):=by
   funext j
   unfold updF
   split
   ·rename_i e; subst e
    unfold wf
    rw [List.getD_eq_getElem?_getD,List.getElem?_eq_none (by omega)]
    rfl
   ·rfl
  rw [this]; rfl
 ·unfold Lq1a_1
  simp only [decide_eq_true_eq]
  by_cases e:n=4
  ·subst e
   refine ifF (by omega) ?_
   have e1:w64 ((i:Int)+1)=((i+1:Nat):Int):=by rw [w64_in (by omega) (by omega)]; omega
   have e2:updF (wf (first b i)) i (wi (word (((b.drop (4 * i)).take 4).take 4) 0))=wf (first b (i+1)):=by
    have:=wf_next (first b i) (wordAt b i)
    rw [hfl] at this
    rw [List.take_of_length_le (by omega)]
    refine this.trans ?_
    congr 1
    simp [first,List.range_succ]
   rw [e1,e2]
   exact h
  ·have hn':n < 4:=by omega
   have hk':=hk hn'
   rw [BV_len,hl]
   simp only [Int.toNat_natCast,Nat.mul_one,Nat.zero_add]
   refine ifT (by omega) (ifT (by omega) (asB (by omega) (ifT (by omega) (asI (by omega) ?_))))
   have eu:updF (wf (first b i)) i (wi (word (((b.drop (4 * i)).take 4).take n) 0)) i=wi (word (((b.drop (4 * i)).take 4).take n) 0):=by simp [updF]
   rw [eu]
   have e8:=wi_shl (word (((b.drop (4 * i)).take 4).take n) 0) 8
   rw [show ((2:Int) ^ 8)=256 from rfl] at e8
   simp only [lt,e8,wu32_bi,wi_or]
   refine ifT (by omega) (ifT (Nat.zero_lt_one) (ifT (by show i+1≤80; omega) ?_))
   have e1:w64 ((n:Int)+1)=((n+1:Nat):Int):=by rw [w64_in (by omega) (by omega)]; omega
   rw [e1]
   have et:((b.drop (4 * i)).take 4).take (n+1)=((b.drop (4 * i)).take 4).take n++[((b.drop (4 * i)).take 4)[n]]:=by
    rw [List.take_succ_eq_append_getElem (by omega)]
   rw [et,word_snoc] at hk'
   refine (congrArg k ?_).mp hk'
   have es:=@agL_set .u32 80 (updF (wf (first b i)) i (wi (word (((b.drop (4 * i)).take 4).take n) 0))) i (wi (word (((b.drop (4 * i)).take 4).take n) 0 <<< 8 ||| BitVec.ofNat 32 (((b.drop (4 * i)).take 4)[n]).toNat)) (by omega)
   have eq:∀ (f:Nat→Int) (x y:Int),updF (updF f i x) i y=updF f i y:=fun f x y=>by
    funext j; unfold updF; split <;> rfl
   rw [eq] at es
   rw [← es]
theorem sBlock (b:List UInt8) (hb:b.length=64) (s:St5) {K:Int→Int→Int→Int→Int→Prop} (h:K (wi (blockL s b).a) (wi (blockL s b).b) (wi (blockL s b).c) (wi (blockL s b).d) (wi (blockL s b).e)) :
  Xq1a (BV b) (wi s.a) (wi s.b) (wi s.c) (wi s.d) (wi s.e) K:=by
 unfold Xq1a Yq1a
 refine lp_at (fun j=>(((),BV b,(),(j:Int),()),(wi s.a,wi s.b,wi s.c,wi s.d,wi s.e,()),agL .u32 80 (wf (first b j)),())) 16 rfl fun n hn k hk=>?_
 unfold Lq1a_0
 simp only [decide_eq_true_eq]
 by_cases e:n=16
 ·subst e
  refine ifF (by omega) ?_
  exact sMix b s _ _ _ _ _ _ h
 ·have hn':n < 16:=by omega
  have hk':=hk hn'
  have e4:w64 (4 * (n:Int))=((4 * n:Nat):Int):=by rw [w64_in (by omega) (by omega)]; omega
  have e5:w64 (((4 * n:Nat):Int)+4)=((4 * n+4:Nat):Int):=by rw [w64_in (by omega) (by omega)]; omega
  rw [e4,e5,BV_len,hb]
  simp only [lt,Int.toNat_natCast,BV_cut,show 4 * n+4 - 4 * n=4 by omega]
  refine ifT (by omega) (ifT (by omega) (ifT (by omega) ?_))
  have hl:((b.drop (4 * n)).take 4).length=4:=by simp; omega
  rw [BV_len,hl]
  exact sFour b n hn' hb _ _ _ _ _ _ _ hk'
end Go.Proofs.YtdjldmolhkkipaaGreatDoor
end
section
set_option linter.unusedVariables false
set_option linter.unusedSimpArgs false
namespace Go.Proofs.YtdjldmolhkkipaaGreatDoor
open Go Go.Proofs.YtdjldmolhkkipaaGreatDoor.Eng Go.Proofs.YtdjldmolhkkipaaGreatDoor.Pl
set_option maxRecDepth 100000
set_option maxHeartbeats 2000000
theorem sroom (n:Nat) (h:n≤100000000):roomOk n 1=true:=by
 unfold roomOk
 simp only [decide_eq_true_eq]
 omega
theorem ifR (n:Nat) {a b:Prop} (h:n≤100000000) (ha:a):if roomOk n 1=true then a else b:=by rw [if_pos (sroom n h)]; exact ha
def Parts (v:List V) (ps:List (List UInt8)):Prop:=v.length=ps.length∧∀ (i:Nat) (h:i < ps.length),∃ es fl,v[i]? = some (.sl es fl (BV ps[i]))∧(es=1∨ps[i]=[])
theorem asPart {v:List V} {ps:List (List UInt8)} (hp:Parts v ps) {i:Nat} (h:i < ps.length) {F:Prop} {K:Bool→List V→Prop} (hk:∀ fl,K fl (BV ps[i])):Eng.asSl 1 (getC v i 0) F K:=by
 obtain ⟨es,fl,h1,h2⟩:=hp.2 i h
 have:getC v i 0=some (.sl es fl (BV ps[i])):=by simp [getC,h1,V.cells]
 rw [this]
 unfold Eng.asSl
 have hb:(Nat.beq 1 es || (BV ps[i]).isEmpty)=true:=by
  rcases h2 with rfl | h2
  ·rfl
  ·rw [h2]; simp [BV]
 simp only [hb,cond_true]
 exact hk fl
theorem sGrow (n:Nat) (h:n≤1000000) {K:List V→Bool→Bool→Prop} (hk:∀ frz,K [] true frz):Xq06 (n:Int) K:=by
 unfold Xq06 Yq06
 simp only [decide_eq_true_eq]
 have e:w64 ((n:Int) - 0)=(n:Int):=by rw [w64_in (by omega) (by omega)]; omega
 rw [e]
 refine ifF (by omega) (ifC (fun h0=>?_) fun h0=>hk _)
 refine ifT (by omega) (ifR _ ?_ (hk _))
 rw [List.length_replicate,Int.toNat_natCast]
 omega
theorem sflat_len (ps:List (List UInt8)) (j:Nat) (h:j < ps.length):(ps.take (j+1)).flatten=(ps.take j).flatten++ps[j]:=by
 rw [List.take_succ_eq_append_getElem h,List.flatten_append,List.flatten_singleton]
theorem sflat_le (ps:List (List UInt8)) (j:Nat):(ps.take j).flatten.length≤ps.flatten.length:=by
 conv=>rhs; rw [← List.take_append_drop j ps,List.flatten_append,List.length_append]
 omega
theorem sConcat (v:List V) (ps:List (List UInt8)) (hp:Parts v ps) (hn:ps.length≤1000000) (hl:ps.flatten.length≤1000000) {K:List V→Bool→Bool→Prop} (hk:∀ frz,K (BV ps.flatten) true frz) :
  Xq05 v K:=by
 unfold Xq05 Yq05
 rw [hp.1]
 refine lp_at (fun j=>((v,(),((ps.take j).flatten.length:Int),v,(ps.length:Int),(j:Int),()),())) ps.length rfl fun n hn' k hkk=>?_
 unfold Lq05_0
 simp only [decide_eq_true_eq]
 by_cases e:n=ps.length
 ·refine ifF (by omega) ?_
  refine sGrow _ (Nat.le_trans (sflat_le _ _) hl) fun frz=>?_
  rw [hp.1]
  refine lp_at (fun j=>(((),(),v,(ps.length:Int),(j:Int),()),(BV (ps.take j).flatten,true,frz),())) ps.length rfl fun m hm k hkk=>?_
  unfold Lq05_1
  simp only [decide_eq_true_eq]
  by_cases e:m=ps.length
  ·refine ifF (by omega) ?_
   subst e
   rw [List.take_length]; exact hk frz
  ·have hm':m < ps.length:=by omega
   rw [hp.1,Int.toNat_natCast]
   refine ifT (by omega) (ifT (by omega) (asPart hp hm' fun fl=>ifT trivial (ifR _ ?_ ?_)))
   ·rw [BV_len,BV_len]
    have:=sflat_len ps m hm'
    have h2:=sflat_le ps (m+1)
    rw [this,List.length_append] at h2
    omega
   ·have hk':=hkk hm'
    rw [sflat_len ps m hm'] at hk'
    have e1:w64 ((m:Int)+1)=((m+1:Nat):Int):=by rw [w64_in (by omega) (by omega)]; omega
    rw [e1]
    have:BV (ps.take m).flatten++BV ps[m]=BV ((ps.take m).flatten++ps[m]):=by simp [BV]
    rw [this]; exact hk'
 ·have hn2:n < ps.length:=by omega
  rw [hp.1,Int.toNat_natCast]
  refine ifT (by omega) (ifT (by omega) (asPart hp hn2 fun fl=>?_))
  have hk':=hkk hn2
  have h2:=sflat_le ps (n+1)
  rw [sflat_len ps n hn2,List.length_append] at hk' h2
  rw [BV_len]
  have e0:w64 (((ps.take n).flatten.length:Int)+(ps[n].length:Int))=(((ps.take n).flatten.length+ps[n].length:Nat):Int):=by rw [w64_in (by omega) (by omega)]; omega
  have e1:w64 ((n:Int)+1)=((n+1:Nat):Int):=by rw [w64_in (by omega) (by omega)]; omega
  rw [e0,e1]
  exact ifF (by omega) hk'
abbrev t20 (u:Nat→UInt8):T20:=(bi (u 0),bi (u 1),bi (u 2),bi (u 3),bi (u 4),bi (u 5),bi (u 6),bi (u 7),bi (u 8),bi (u 9),bi (u 10),bi (u 11),bi (u 12),bi (u 13),bi (u 14),bi (u 15),bi (u 16),bi (u 17),bi (u 18),bi (u 19),())
def part (u:Nat→UInt8) (i j:Nat):Int:=if j < i then bi (u j) else 0
theorem part_next (u:Nat→UInt8) (i:Nat):updF (part u i) i (bi (u i))=part u (i+1):=by
 funext j
 unfold updF part
 by_cases h:j=i
 ·subst h; simp
 ·rw [if_neg h]
  by_cases h2:j < i
  ·rw [if_pos h2,if_pos (by omega)]
  ·rw [if_neg h2,if_neg (by omega)]
theorem as5 (s:St5) {i:Nat} (h:i < 5) {F:Prop} {K:Int→Prop} (hk:K (wi (s.at i))):Eng.asInt .u32 ([cw s.a,cw s.b,cw s.c,cw s.d,cw s.e][i]?) F K:=by
 have:[cw s.a,cw s.b,cw s.c,cw s.d,cw s.e][i]? = some (cw (s.at i)):=by
  match i,h with
  | 0,_=>rfl
  | 1,_=>rfl
  | 2,_=>rfl
  | 3,_=>rfl
  | 4,_=>rfl
 rw [this]; simpa [Eng.asInt] using hk
theorem wu8_shr (x:Nat) (k:Nat) (hx:x < 18446744073709551616):wu8 (Int.fdiv (x:Int) (2 ^ k))=bi (UInt8.ofNat (x / 2 ^ k)):=by
 rw [Int.fdiv_eq_ediv_of_nonneg _ (by exact_mod_cast Nat.zero_le _)]
 have:((x:Int) / 2 ^ k)=((x / 2 ^ k:Nat):Int):=by exact_mod_cast rfl
 rw [this]
 unfold bi
 rw [UInt8.toNat_ofNat']
 simp only [wu8,IntKind.wrap,IntKind.bits,IntKind.signed]
 simp
theorem set20 (f:Nat→Int):List.set (agL .u8 20 f) 0 (setE (List.getD (agL .u8 20 f) 0 V.bad) 0 [V.c (.int .u8 (f 0)),V.c (.int .u8 (f 1)),V.c (.int .u8 (f 2)),V.c (.int .u8 (f 3)),V.c (.int .u8 (f 4)),V.c (.int .u8 (f 5)),V.c (.int .u8 (f 6)),V.c (.int .u8 (f 7)),V.c (.int .u8 (f 8)),V.c (.int .u8 (f 9)),V.c (.int .u8 (f 10)),V.c (.int .u8 (f 11)),V.c (.int .u8 (f 12)),V.c (.int .u8 (f 13)),V.c (.int .u8 (f 14)),V.c (.int .u8 (f 15)),V.c (.int .u8 (f 16)),V.c (.int .u8 (f 17)),V.c (.int .u8 (f 18)),V.c (.int .u8 (f 19))])=agL .u8 20 f:=by kernel_rfl
theorem asIe {k:IntKind} {n:Nat} {f:Nat→Int} (i:Nat) (h:Nat.blt i n=true) {F:Prop} {K:Int→Prop}:Eng.asInt k (getC (agL k n f) 0 i) F K=K (f i):=by
 have h':i < n:=by rw [Nat.blt_eq] at h; exact h
 rw [agL_get h']
 simp [Eng.asInt]
set_option maxHeartbeats 2000000 in
theorem read20 (u:Nat→UInt8) (f:Nat→Int) (hf:∀ i,i < 20→f i=bi (u i)) {K:T20→Prop}:(Eng.asInt IntKind.u8 (Eng.getC (agL .u8 20 f) (0:Nat) (0:Nat)) False fun m0 =>
  Eng.asInt IntKind.u8 (Eng.getC (agL .u8 20 f) (0:Nat) (1:Nat)) False fun m1 =>
  Eng.asInt IntKind.u8 (Eng.getC (agL .u8 20 f) (0:Nat) (2:Nat)) False fun m2 =>
  Eng.asInt IntKind.u8 (Eng.getC (agL .u8 20 f) (0:Nat) (3:Nat)) False fun m3 =>
  Eng.asInt IntKind.u8 (Eng.getC (agL .u8 20 f) (0:Nat) (4:Nat)) False fun m4 =>
  Eng.asInt IntKind.u8 (Eng.getC (agL .u8 20 f) (0:Nat) (5:Nat)) False fun m5 =>
  Eng.asInt IntKind.u8 (Eng.getC (agL .u8 20 f) (0:Nat) (6:Nat)) False fun m6 =>
  Eng.asInt IntKind.u8 (Eng.getC (agL .u8 20 f) (0:Nat) (7:Nat)) False fun m7 =>
  Eng.asInt IntKind.u8 (Eng.getC (agL .u8 20 f) (0:Nat) (8:Nat)) False fun m8 =>
  Eng.asInt IntKind.u8 (Eng.getC (agL .u8 20 f) (0:Nat) (9:Nat)) False fun m9 =>
  Eng.asInt IntKind.u8 (Eng.getC (agL .u8 20 f) (0:Nat) (10:Nat)) False fun m10 =>
  Eng.asInt IntKind.u8 (Eng.getC (agL .u8 20 f) (0:Nat) (11:Nat)) False fun m11 =>
  Eng.asInt IntKind.u8 (Eng.getC (agL .u8 20 f) (0:Nat) (12:Nat)) False fun m12 =>
  Eng.asInt IntKind.u8 (Eng.getC (agL .u8 20 f) (0:Nat) (13:Nat)) False fun m13 =>
  Eng.asInt IntKind.u8 (Eng.getC (agL .u8 20 f) (0:Nat) (14:Nat)) False fun m14 =>
  Eng.asInt IntKind.u8 (Eng.getC (agL .u8 20 f) (0:Nat) (15:Nat)) False fun m15 =>
  Eng.asInt IntKind.u8 (Eng.getC (agL .u8 20 f) (0:Nat) (16:Nat)) False fun m16 =>
  Eng.asInt IntKind.u8 (Eng.getC (agL .u8 20 f) (0:Nat) (17:Nat)) False fun m17 =>
  Eng.asInt IntKind.u8 (Eng.getC (agL .u8 20 f) (0:Nat) (18:Nat)) False fun m18 =>
  Eng.asInt IntKind.u8 (Eng.getC (agL .u8 20 f) (0:Nat) (19:Nat)) False fun m19 =>
  (if (0:Nat) < List.length (agL .u8 20 f) then
  lt (List.set (agL .u8 20 f) (0:Nat) (Eng.setE (List.getD (agL .u8 20 f) (0:Nat) Eng.V.bad) (0:Nat) [Eng.V.c (Value.int IntKind.u8 m0),Eng.V.c (Value.int IntKind.u8 m1),Eng.V.c (Value.int IntKind.u8 m2),Eng.V.c (Value.int IntKind.u8 m3),Eng.V.c (Value.int IntKind.u8 m4),Eng.V.c (Value.int IntKind.u8 m5),Eng.V.c (Value.int IntKind.u8 m6),Eng.V.c (Value.int IntKind.u8 m7),Eng.V.c (Value.int IntKind.u8 m8),Eng.V.c (Value.int IntKind.u8 m9),Eng.V.c (Value.int IntKind.u8 m10),Eng.V.c (Value.int IntKind.u8 m11),Eng.V.c (Value.int IntKind.u8 m12),Eng.V.c (Value.int IntKind.u8 m13),Eng.V.c (Value.int IntKind.u8 m14),Eng.V.c (Value.int IntKind.u8 m15),Eng.V.c (Value.int IntKind.u8 m16),Eng.V.c (Value.int IntKind.u8 m17),Eng.V.c (Value.int IntKind.u8 m18),Eng.V.c (Value.int IntKind.u8 m19)])) fun v =>
  Eng.asInt IntKind.u8 (Eng.getC v (0:Nat) (0:Nat)) False fun p0 =>
  Eng.asInt IntKind.u8 (Eng.getC v (0:Nat) (1:Nat)) False fun p1 =>
  Eng.asInt IntKind.u8 (Eng.getC v (0:Nat) (2:Nat)) False fun p2 =>
  Eng.asInt IntKind.u8 (Eng.getC v (0:Nat) (3:Nat)) False fun p3 =>
  Eng.asInt IntKind.u8 (Eng.getC v (0:Nat) (4:Nat)) False fun p4 =>
  Eng.asInt IntKind.u8 (Eng.getC v (0:Nat) (5:Nat)) False fun p5 =>
  Eng.asInt IntKind.u8 (Eng.getC v (0:Nat) (6:Nat)) False fun p6 =>
  Eng.asInt IntKind.u8 (Eng.getC v (0:Nat) (7:Nat)) False fun p7 =>
  Eng.asInt IntKind.u8 (Eng.getC v (0:Nat) (8:Nat)) False fun p8 =>
  Eng.asInt IntKind.u8 (Eng.getC v (0:Nat) (9:Nat)) False fun p9 =>
  Eng.asInt IntKind.u8 (Eng.getC v (0:Nat) (10:Nat)) False fun p10 =>
  Eng.asInt IntKind.u8 (Eng.getC v (0:Nat) (11:Nat)) False fun p11 =>
  Eng.asInt IntKind.u8 (Eng.getC v (0:Nat) (12:Nat)) False fun p12 =>
  Eng.asInt IntKind.u8 (Eng.getC v (0:Nat) (13:Nat)) False fun p13 =>
  Eng.asInt IntKind.u8 (Eng.getC v (0:Nat) (14:Nat)) False fun p14 =>
  Eng.asInt IntKind.u8 (Eng.getC v (0:Nat) (15:Nat)) False fun p15 =>
  Eng.asInt IntKind.u8 (Eng.getC v (0:Nat) (16:Nat)) False fun p16 =>
  Eng.asInt IntKind.u8 (Eng.getC v (0:Nat) (17:Nat)) False fun p17 =>
  Eng.asInt IntKind.u8 (Eng.getC v (0:Nat) (18:Nat)) False fun p18 =>
  Eng.asInt IntKind.u8 (Eng.getC v (0:Nat) (19:Nat)) False fun p19 =>
  K (p0,p1,p2,p3,p4,p5,p6,p7,p8,p9,p10,p11,p12,p13,p14,p15,p16,p17,p18,p19,()) else False))=K (t20 u):=by
 rw [asIe 0 rfl,asIe 1 rfl,asIe 2 rfl,asIe 3 rfl,asIe 4 rfl,asIe 5 rfl,asIe 6 rfl,asIe 7 rfl,asIe 8 rfl,asIe 9 rfl,asIe 10 rfl,asIe 11 rfl,asIe 12 rfl,asIe 13 rfl,asIe 14 rfl,asIe 15 rfl,asIe 16 rfl,asIe 17 rfl,asIe 18 rfl,asIe 19 rfl]
 rw [if_pos (show (0:Nat) < List.length (agL .u8 20 f) from Nat.zero_lt_one)]
 rw [set20]
 simp only [lt]
 rw [asIe 0 rfl,asIe 1 rfl,asIe 2 rfl,asIe 3 rfl,asIe 4 rfl,asIe 5 rfl,asIe 6 rfl,asIe 7 rfl,asIe 8 rfl,asIe 9 rfl,asIe 10 rfl,asIe 11 rfl,asIe 12 rfl,asIe 13 rfl,asIe 14 rfl,asIe 15 rfl,asIe 16 rfl,asIe 17 rfl,asIe 18 rfl,asIe 19 rfl]
 rw [hf 0 (by decide),hf 1 (by decide),hf 2 (by decide),hf 3 (by decide),hf 4 (by decide),hf 5 (by decide),hf 6 (by decide),hf 7 (by decide),hf 8 (by decide),hf 9 (by decide),hf 10 (by decide),hf 11 (by decide),hf 12 (by decide),hf 13 (by decide),hf 14 (by decide),hf 15 (by decide),hf 16 (by decide),hf 17 (by decide),hf 18 (by decide),hf 19 (by decide)]
theorem sBytes (s:St5) (u:Nat→UInt8) (hu:∀ n,n < 20→u n=UInt8.ofNat ((s.at (n / 4)).toNat / 2 ^ (24 - 8 * (n % 4)))) {K:T20→Prop} (k6 k9) (h:K (t20 u)) :
  lp (Lq2r_2 K k6 k9) (((),(),0,()),agL .u8 20 (fun _=>0),(wi s.a,wi s.b,wi s.c,wi s.d,wi s.e,()),()):=by
 refine lp_at (fun j=>(((),(),(j:Int),()),agL .u8 20 (part u j),(wi s.a,wi s.b,wi s.c,wi s.d,wi s.e,()),())) 20 rfl fun n hn k hk=>?_
 unfold Lq2r_2
 simp only [decide_eq_true_eq]
 by_cases e:n=20
 ·subst e
  rw [if_neg (show ¬ ((20:Nat):Int) < 20 by omega)]
  rw [read20 u (part u 20) (fun i hi=>if_pos hi)]
  exact h
 ·have hn':n < 20:=by omega
  have hk':=hk hn'
  rw [← part_next] at hk'
  have e4:w64 (Int.tdiv (n:Int) 4)=((n / 4:Nat):Int):=by
   rw [Int.tdiv_eq_ediv_of_nonneg (by omega),w64_in (by omega) (by omega)]; omega
  have e5:w64 (24 - w64 (Int.tmod (n:Int) 4 * 8))=((24 - 8 * (n % 4):Nat):Int):=by
   rw [Int.tmod_eq_emod_of_nonneg (by omega),w64_in (n:=(n:Int) % 4 * 8) (by omega) (by omega),w64_in (by omega) (by omega)]; omega
  have e1:w64 ((n:Int)+1)=((n+1:Nat):Int):=by rw [w64_in (by omega) (by omega)]; omega
  rw [e4,e5,e1]
  simp only [Int.toNat_natCast,Nat.mul_one,Nat.zero_add,lt]
  refine ifT (by omega) (ifT (by omega) (as5 s (by omega) (ifF (by omega) (ifT (by omega) (ifT (Nat.zero_lt_one) (ifT (by show n+1≤20; omega) ?_))))))
  rw [show min (24 - 8 * (n % 4)) 32=24 - 8 * (n % 4) by omega]
  have e8:=wu8_shr (s.at (n / 4)).toNat (24 - 8 * (n % 4)) (Nat.lt_trans (wi_lt _) (by omega))
  rw [show Int.fdiv (wi (s.at (n / 4))) (2 ^ (24 - 8 * (n % 4)))=Int.fdiv ((s.at (n / 4)).toNat:Int) (2 ^ (24 - 8 * (n % 4))) from rfl,e8,← hu n hn']
  refine (congrArg k ?_).mp hk'
  rw [← agL_set (by omega)]
end Go.Proofs.YtdjldmolhkkipaaGreatDoor
end
section
set_option linter.unusedVariables false
set_option linter.unusedSimpArgs false
namespace Go.Proofs.YtdjldmolhkkipaaGreatDoor
open Go Go.Proofs.YtdjldmolhkkipaaGreatDoor.Eng Go.Proofs.YtdjldmolhkkipaaGreatDoor.Pl
set_option maxRecDepth 100000
set_option maxHeartbeats 1000000
theorem zeros20:[Eng.V.agg [V.c (.int .u8 0),V.c (.int .u8 0),V.c (.int .u8 0),V.c (.int .u8 0),V.c (.int .u8 0),V.c (.int .u8 0),V.c (.int .u8 0),V.c (.int .u8 0),V.c (.int .u8 0),V.c (.int .u8 0),V.c (.int .u8 0),V.c (.int .u8 0),V.c (.int .u8 0),V.c (.int .u8 0),V.c (.int .u8 0),V.c (.int .u8 0),V.c (.int .u8 0),V.c (.int .u8 0),V.c (.int .u8 0),V.c (.int .u8 0)]]=agL .u8 20 (fun _=>0):=by kernel_rfl
theorem BV_app (a b:List UInt8):BV a++BV b=BV (a++b):=by simp [BV]
theorem BV_one (c:UInt8):[V.c (.int .u8 (bi c))]=BV [c]:=rfl
theorem BV_rep (n:Nat):List.replicate n (Eng.ofVal (Value.int IntKind.u8 0))=BV (List.replicate n 0):=by
 rw [BV,List.map_replicate]; rfl
theorem be64_len (n:Nat):(be64 n).length=8:=by simp [be64]
theorem be64_get (n j:Nat) (h:j < 8):(be64 n)[j]'(by rw [be64_len]; exact h)=UInt8.ofNat (n / 2 ^ (8 * (7 - j))):=by simp [be64]
theorem sBlocks (l:List UInt8) (hm:l.length % 64=0) (hl:l.length≤1000000) (u:Nat→UInt8) (hu:∀ n,n < 20→u n=UInt8.ofNat (((blocksN l s0 (l.length / 64)).at (n / 4)).toNat / 2 ^ (24 - 8 * (n % 4)))) {K:T20→Prop} (k6) (h:K (t20 u)) :
  lp (Lq2r_1 Xq1a K k6) (((),BV l,(),()),agL .u8 20 (fun _=>0),(wi s0.a,wi s0.b,wi s0.c,wi s0.d,wi s0.e,()),()):=by
 refine lp_at (fun j=>(((),BV (l.drop (64 * j)),(),()),agL .u8 20 (fun _=>0),(wi (blocksN l s0 j).a,wi (blocksN l s0 j).b,wi (blocksN l s0 j).c,wi (blocksN l s0 j).d,wi (blocksN l s0 j).e,()),())) (l.length / 64) rfl fun n hn k hk=>?_
 unfold Lq2r_1
 simp only [decide_eq_true_eq,BV_len,List.length_drop]
 by_cases e:n=l.length / 64
 ·rw [if_neg (by omega)]
  rw [e]
  exact sBytes _ u hu _ _ h
 ·have hn':n < l.length / 64:=by omega
  have hk':=hk hn'
  rw [if_pos (by omega),if_pos (by omega)]
  rw [BV_cut,List.drop_zero]
  refine sBlock _ (by simp; omega) _ ?_
  rw [if_pos (by omega),if_pos (by omega),Int.toNat_natCast,BV_cut,List.drop_drop]
  have e1:(l.drop (64 * n+64)).take (l.length - 64 * n - 64)=l.drop (64 * (n+1)):=by
   rw [List.take_of_length_le (by simp; omega)]; congr 1
  rw [e1]
  exact hk'
theorem sSum (v:List V) (ps:List (List UInt8)) (hp:Parts v ps) (hn:ps.length≤1000000) (hl:ps.flatten.length≤100000) {K:T20→Prop} (h:K (t20 (digest ps.flatten))):Xq2r v K:=by
 unfold Xq2r Yq2r
 refine sConcat v ps hp hn (by omega) fun frz=>?_
 generalize ps.flatten=m at *
 rw [if_pos rfl]
 rw [show V.c (.int .u8 128)=cb 128 from rfl,show [cb 128]=BV [128] from rfl,BV_app]
 simp only [BV_len]
 rw [if_pos (sroom _ (by omega))]
 have e4:w64 (184 - Int.tmod ((m++[128]:List UInt8).length:Int) 64)=((184 - (m.length+1) % 64:Nat):Int):=by
  rw [Int.tmod_eq_emod_of_nonneg (by omega),List.length_append,List.length_singleton,w64_in (by omega) (by omega)]; omega
 have e5:Int.tmod ((184 - (m.length+1) % 64:Nat):Int) 64=(((184 - (m.length+1) % 64) % 64:Nat):Int):=by
  rw [Int.tmod_eq_emod_of_nonneg (by omega)]; omega
 rw [e4]
 simp only [lt,e5,Int.toNat_natCast,BV_rep,BV_app,BV_len]
 rw [if_pos (by omega),if_pos trivial,if_pos (sroom _ (by simp; omega))]
 have e6:wu64 (wu64 (m.length:Int) * 8)=((8 * m.length:Nat):Int):=by
  rw [wu64_in (n:=(m.length:Int)) (by omega) (by omega),wu64_in (by omega) (by omega)]; omega
 rw [e6,zeros20]
 have hlp:(padL m).length≤1000000:=by simp [padL,be64]; omega
 refine lp_at (fun j=>(((),(),((8 * m.length:Nat):Int),7 - (j:Int),()),agL .u8 20 (fun _=>0),(BV (m++[128]++List.replicate ((184 - (m.length+1) % 64) % 64) 0++(be64 (8 * m.length)).take j),true,frz),())) 8 (by simp) fun n hn k hk=>?_
 unfold Lq2r_0
 simp only [decide_eq_true_eq,BV_len,List.length_append,List.length_take,be64_len,List.length_replicate,List.length_singleton]
 by_cases e:n=8
 ·rw [if_neg (by omega)]
  subst e
  rw [List.take_of_length_le (by rw [be64_len]; omega)]
  exact sBlocks (padL m) (padL_len m) hlp (digest m) (fun _ _=>rfl) _ h
 ·have hn':n < 8:=by omega
  have hk':=hk hn'
  have e8:w64 (8 * (7 - (n:Int)))=((8 * (7 - n):Nat):Int):=by rw [w64_in (by omega) (by omega)]; omega
  have e1:w64 (7 - (n:Int) - 1)=7 - ((n+1:Nat):Int):=by rw [w64_in (by omega) (by omega)]; omega
  rw [e8,e1]
  rw [if_pos (by omega),if_neg (by omega),Int.toNat_natCast,show min (8 * (7 - n)) 64=8 * (7 - n) by omega]
  rw [wu8_shr _ _ (by omega)]
  simp only [lt,if_true]
  rw [if_pos (sroom _ (by simp; omega))]
  rw [BV_one,BV_app]
  refine (congrArg k ?_).mp hk'
  rw [List.take_succ_eq_append_getElem (by rw [be64_len]; omega),be64_get _ _ hn',← List.append_assoc]
end Go.Proofs.YtdjldmolhkkipaaGreatDoor
end
section
set_option linter.unusedVariables false
set_option linter.unusedSimpArgs false
namespace Go.Proofs.YtdjldmolhkkipaaGreatDoor
open Go Go.Proofs.YtdjldmolhkkipaaGreatDoor.Eng Go.Proofs.YtdjldmolhkkipaaGreatDoor.Pl
set_option maxRecDepth 100000
set_option maxHeartbeats 1000000
abbrev t5 (w:Nat→W32):T5:=(wi (w 0),wi (w 1),wi (w 2),wi (w 3),wi (w 4),())
def dL (d:Nat→UInt8):List UInt8:=(List.range 20).map d
theorem dL_len (d:Nat→UInt8):(dL d).length=20:=by simp [dL]
theorem dL_get (d:Nat→UInt8) (i:Nat) (h:i < 20):(dL d)[i]'(by rw [dL_len]; exact h)=d i:=by simp [dL]
theorem as20 {d:Nat→UInt8} {i:Nat} (h:i < 20) {F:Prop} {K:Int→Prop} (hk:K (bi (d i))):Eng.asInt .u8 ([V.c (.int .u8 (bi (d 0))),V.c (.int .u8 (bi (d 1))),V.c (.int .u8 (bi (d 2))),V.c (.int .u8 (bi (d 3))),V.c (.int .u8 (bi (d 4))),V.c (.int .u8 (bi (d 5))),V.c (.int .u8 (bi (d 6))),V.c (.int .u8 (bi (d 7))),V.c (.int .u8 (bi (d 8))),V.c (.int .u8 (bi (d 9))),V.c (.int .u8 (bi (d 10))),V.c (.int .u8 (bi (d 11))),V.c (.int .u8 (bi (d 12))),V.c (.int .u8 (bi (d 13))),V.c (.int .u8 (bi (d 14))),V.c (.int .u8 (bi (d 15))),V.c (.int .u8 (bi (d 16))),V.c (.int .u8 (bi (d 17))),V.c (.int .u8 (bi (d 18))),V.c (.int .u8 (bi (d 19)))][i]?) F K:=by
 have:[V.c (.int .u8 (bi (d 0))),V.c (.int .u8 (bi (d 1))),V.c (.int .u8 (bi (d 2))),V.c (.int .u8 (bi (d 3))),V.c (.int .u8 (bi (d 4))),V.c (.int .u8 (bi (d 5))),V.c (.int .u8 (bi (d 6))),V.c (.int .u8 (bi (d 7))),V.c (.int .u8 (bi (d 8))),V.c (.int .u8 (bi (d 9))),V.c (.int .u8 (bi (d 10))),V.c (.int .u8 (bi (d 11))),V.c (.int .u8 (bi (d 12))),V.c (.int .u8 (bi (d 13))),V.c (.int .u8 (bi (d 14))),V.c (.int .u8 (bi (d 15))),V.c (.int .u8 (bi (d 16))),V.c (.int .u8 (bi (d 17))),V.c (.int .u8 (bi (d 18))),V.c (.int .u8 (bi (d 19)))]=(List.range 20).map fun i=>V.c (.int .u8 (bi (d i))):=rfl
 rw [this]
 exact asL h hk
def wv (d:Nat→UInt8) (i j:Nat):Int:=wi (word (((dL d).drop (4 * j)).take (min 4 (i - 4 * j))) 0)
theorem wv_next (d:Nat→UInt8) (i:Nat) (h:i < 20):updF (wv d i) (i / 4) (wi (word (((dL d).drop (4 * (i / 4))).take (min 4 (i - 4 * (i / 4)))) 0 <<< 8 ||| BitVec.ofNat 32 (d i).toNat))=wv d (i+1):=by
 funext j
 unfold updF wv
 by_cases e:j=i / 4
 ·rw [if_pos e,e]
  have e1:min 4 (i - 4 * (i / 4))=i % 4:=by omega
  have e2:min 4 (i+1 - 4 * (i / 4))=i % 4+1:=by omega
  rw [e1,e2,List.take_succ_eq_append_getElem (by rw [List.length_drop,dL_len]; omega),word_snoc,List.getElem_drop]
  have e3:(dL d)[4 * (i / 4)+i % 4]'(by rw [dL_len]; omega)=d i:=by
   rw [dL_get d _ (by omega)]; congr 1; omega
  rw [e3]
 ·rw [if_neg e]
  have:min 4 (i - 4 * j)=min 4 (i+1 - 4 * j):=by omega
  rw [this]
theorem wv_end (d:Nat→UInt8) (j:Nat) (h:j < 5):wv d 20 j=wi (wordsOf d j):=by
 unfold wv wordsOf
 rw [show min 4 (20 - 4 * j)=4 by omega]
 match j,h with
 | 0,_=>rfl
 | 1,_=>rfl
 | 2,_=>rfl
 | 3,_=>rfl
 | 4,_=>rfl
theorem set5 (f:Nat→Int):List.set (agL .u32 5 f) 0 (setE (List.getD (agL .u32 5 f) 0 V.bad) 0 [V.c (.int .u32 (f 0)),V.c (.int .u32 (f 1)),V.c (.int .u32 (f 2)),V.c (.int .u32 (f 3)),V.c (.int .u32 (f 4))])=agL .u32 5 f:=by kernel_rfl
theorem read5 (u:Nat→W32) (f:Nat→Int) (hf:∀ i,i < 5→f i=wi (u i)) {K:T5→Prop}:(Eng.asInt IntKind.u32 (Eng.getC (agL .u32 5 f) (0:Nat) (0:Nat)) False fun m0 =>
  Eng.asInt IntKind.u32 (Eng.getC (agL .u32 5 f) (0:Nat) (1:Nat)) False fun m1 =>
  Eng.asInt IntKind.u32 (Eng.getC (agL .u32 5 f) (0:Nat) (2:Nat)) False fun m2 =>
  Eng.asInt IntKind.u32 (Eng.getC (agL .u32 5 f) (0:Nat) (3:Nat)) False fun m3 =>
  Eng.asInt IntKind.u32 (Eng.getC (agL .u32 5 f) (0:Nat) (4:Nat)) False fun m4 =>
  (if (0:Nat) < List.length (agL .u32 5 f) then
  lt (List.set (agL .u32 5 f) (0:Nat) (Eng.setE (List.getD (agL .u32 5 f) (0:Nat) Eng.V.bad) (0:Nat) [V.c (.int .u32 m0),V.c (.int .u32 m1),V.c (.int .u32 m2),V.c (.int .u32 m3),V.c (.int .u32 m4)])) fun v =>
  Eng.asInt IntKind.u32 (Eng.getC v (0:Nat) (0:Nat)) False fun p0 =>
  Eng.asInt IntKind.u32 (Eng.getC v (0:Nat) (1:Nat)) False fun p1 =>
  Eng.asInt IntKind.u32 (Eng.getC v (0:Nat) (2:Nat)) False fun p2 =>
  Eng.asInt IntKind.u32 (Eng.getC v (0:Nat) (3:Nat)) False fun p3 =>
  Eng.asInt IntKind.u32 (Eng.getC v (0:Nat) (4:Nat)) False fun p4 =>
  K (p0,p1,p2,p3,p4,()) else False))=K (t5 u):=by
 rw [asIe 0 rfl,asIe 1 rfl,asIe 2 rfl,asIe 3 rfl,asIe 4 rfl]
 rw [if_pos (show (0:Nat) < List.length (agL .u32 5 f) from Nat.zero_lt_one)]
 rw [set5]
 simp only [lt]
 rw [asIe 0 rfl,asIe 1 rfl,asIe 2 rfl,asIe 3 rfl,asIe 4 rfl]
 rw [hf 0 (by decide),hf 1 (by decide),hf 2 (by decide),hf 3 (by decide),hf 4 (by decide)]
theorem zeros5:[Eng.V.agg [V.c (.int .u32 0),V.c (.int .u32 0),V.c (.int .u32 0),V.c (.int .u32 0),V.c (.int .u32 0)]]=agL .u32 5 (fun _=>0):=by kernel_rfl
theorem wv_zero (d:Nat→UInt8):agL .u32 5 (wv d 0)=agL .u32 5 (fun _=>0):=agL_congr fun i hi=>by unfold wv; rw [Nat.zero_sub,Nat.min_zero,List.take_zero]; rfl
theorem sWords (d:Nat→UInt8) {K:T5→Prop} (h:K (t5 (wordsOf d))):Xq25 (t20 d) K:=by
 unfold Xq25 Yq25
 rw [zeros5,← wv_zero d]
 refine lp_at (fun j=>(((),t20 d,(j:Int),()),agL .u32 5 (wv d j),())) 20 rfl fun n hn k hk=>?_
 unfold Lq25_0
 simp only [decide_eq_true_eq]
 by_cases e:n=20
 ·subst e
  rw [if_neg (by omega)]
  rw [read5 (wordsOf d) (wv d 20) (wv_end d)]
  exact h
 ·have hn':n < 20:=by omega
  have hk':=hk hn'
  rw [← wv_next d n hn'] at hk'
  have e4:w64 (Int.tdiv (n:Int) 4)=((n / 4:Nat):Int):=by
   rw [Int.tdiv_eq_ediv_of_nonneg (by omega),w64_in (by omega) (by omega)]; omega
  have e1:w64 ((n:Int)+1)=((n+1:Nat):Int):=by rw [w64_in (by omega) (by omega)]; omega
  rw [e4,e1]
  simp only [Int.toNat_natCast,Nat.mul_one,Nat.zero_add,lt]
  rw [if_pos (by omega),if_pos (by omega)]
  refine as20 hn' ?_
  rw [if_pos (by omega)]
  refine asI (by omega) ?_
  have e8:=wi_shl (word (((dL d).drop (4 * (n / 4))).take (min 4 (n - 4 * (n / 4)))) 0) 8
  rw [show ((2:Int) ^ 8)=256 from rfl] at e8
  rw [show wv d n (n / 4)=wi (word (((dL d).drop (4 * (n / 4))).take (min 4 (n - 4 * (n / 4)))) 0) from rfl]
  simp only [e8,wu32_bi,wi_or]
  rw [if_pos (by omega),if_pos (show (0:Nat) < List.length (agL .u32 5 (wv d n)) from Nat.zero_lt_one),if_pos (by show n / 4+1≤5; omega)]
  rw [agL_set (by omega)]
  exact hk'
theorem nib (c:UInt8):Int.fdiv (bi c) 16=((c.toNat / 16:Nat):Int):=by
 rw [Int.fdiv_eq_ediv_of_nonneg _ (by omega)]; unfold bi; omega
theorem nib2 (c:UInt8):wu8 ((BitVec.toNat (BitVec.ofInt 8 (bi c) &&& BitVec.ofInt 8 15):Nat):Int)=((c.toNat % 16:Nat):Int):=by
 have h:=bi_lt c
 have:(BitVec.ofInt 8 (bi c) &&& BitVec.ofInt 8 15).toNat=c.toNat % 16:=by
  rw [BitVec.toNat_and]
  rw [show BitVec.toNat (BitVec.ofInt 8 15)=2 ^ 4 - 1 from rfl,Nat.and_two_pow_sub_one_eq_mod]
  rw [BitVec.toNat_ofInt]
  unfold bi
  rw [show (2 ^ 8:Nat)=256 from rfl,show (2 ^ 4:Nat)=16 from rfl]
  omega
 rw [this,wu8_in (by omega) (by omega)]
theorem bAt_hex (n:Nat):Eng.bAt (ByteArray.mk #[(48:UInt8),(49:UInt8),(50:UInt8),(51:UInt8),(52:UInt8),(53:UInt8),(54:UInt8),(55:UInt8),(56:UInt8),(57:UInt8),(97:UInt8),(98:UInt8),(99:UInt8),(100:UInt8),(101:UInt8),(102:UInt8)]) n=bi (hexC n):=rfl
theorem hexN_len (d:Nat→UInt8) (n:Nat):(hexN d n).length=2 * n:=by
 induction n with
 | zero=>rfl
 | succ n ih=>simp [hexN,ih]; omega
theorem allU8_BV (l:List UInt8):allU8 (BV l)=true:=by
 simp [allU8,BV,isU8]
theorem packB_BV (l:List UInt8):packB (BV l)=S l:=by
 unfold packB BV
 rw [List.map_map]
 have:(Eng.byteOf∘cb)=id:=by
  funext c; simp [Eng.byteOf,cb,bi]
 rw [this,List.map_id]
theorem sHex (d:Nat→UInt8) {K:ByteArray→Prop} (h:K (S (hexN d 20))):Xq2t (t20 d) K:=by
 unfold Xq2t Yq2t
 refine lp_at (fun j=>((ByteArray.mk #[],(),t20 d,(j:Int),()),BV (hexN d j),())) 20 rfl fun n hn k hk=>?_
 unfold Lq2t_0
 simp only [decide_eq_true_eq]
 by_cases e:n=20
 ·subst e
  rw [if_neg (by omega),if_pos (allU8_BV _),packB_BV]
  exact h
 ·have hn':n < 20:=by omega
  have hk':=hk hn'
  have e1:w64 ((n:Int)+1)=((n+1:Nat):Int):=by rw [w64_in (by omega) (by omega)]; omega
  rw [e1]
  simp only [Int.toNat_natCast,Nat.mul_one,Nat.zero_add,lt]
  rw [if_pos (by omega),if_pos (by omega)]
  refine as20 hn' ?_
  have hb:=bi_lt (d n)
  simp only [nib,nib2,Int.toNat_natCast,bAt_hex]
  rw [if_pos (by omega),if_pos (by omega),if_pos (sroom _ (by rw [BV_len,hexN_len]; simp; omega))]
  rw [show [V.c (.int .u8 (bi (hexC ((d n).toNat / 16)))),V.c (.int .u8 (bi (hexC ((d n).toNat % 16))))]=BV [hexC ((d n).toNat / 16),hexC ((d n).toNat % 16)] from rfl,BV_app]
  exact hk'
end Go.Proofs.YtdjldmolhkkipaaGreatDoor
end
section
set_option linter.unusedVariables false
set_option linter.unusedSimpArgs false
namespace Go.Proofs.YtdjldmolhkkipaaGreatDoor.Pl
open Go
def splitL (c:UInt8) (l:List UInt8):List UInt8×List UInt8×Bool:=if nl (· == c) l < l.length then (l.take (nl (· == c) l),l.drop (nl (· == c) l+1),true) else (l,[],false)
def badC (c:UInt8):Bool:=!((97≤c.toNat && c.toNat≤122) || (65≤c.toNat && c.toNat≤90) || (48≤c.toNat && c.toNat≤57) || c.toNat == 43 || c.toNat == 45)
def letC (c:UInt8):Bool:=(97≤c.toNat && c.toNat≤122) || (65≤c.toNat && c.toNat≤90)
def abbrL (l:List UInt8):Bool:=decide (3≤l.length∧l.length≤16) && !l.any badC
structure Ru where
 k:Int
 a:Int
 b:Int
 c:Int
 x:Int
def Ru.z:Ru:=⟨0,0,0,0,0⟩
def Ru.ok (r:Ru):Bool:=rightR r.k r.a r.b r.c r.x
def Ru.txt (r:Ru):List UInt8:=(textL r.k r.a r.b r.c r.x).1
def Ru.at (r:Ru) (y:Int):Int:=ruleDay r.k r.a r.b r.c y * 86400+r.x
structure Ft where
 so:Int
 sd:Bool
 sa:List UInt8
 wo:Int
 wd:Bool
 wa:List UInt8
 has:Bool
 fr:Ru
 «to»:Ru
def Ft.z:Ft:=⟨0,false,[],0,false,[],false,.z,.z⟩
def kindR (o:Int) (d:Bool) (l:List UInt8) (w:Bool):Bool:=abbrL l && (d == w) && decide (-89999≤o∧o≤89999)
def Ft.bare (f:Ft):Prop:=f.wo=0∧f.wd=false∧f.wa=[]∧(f.fr.k=0∧f.fr.a=0∧f.fr.b=0∧f.fr.c=0∧f.fr.x=0)∧(f.«to».k=0∧f.«to».a=0∧f.«to».b=0∧f.«to».c=0∧f.«to».x=0)
instance (f:Ft):Decidable f.bare:=inferInstanceAs (Decidable (_∧_))
def Ft.ok (f:Ft):Bool:=kindR f.so f.sd f.sa false && (if f.has=true then kindR f.wo f.wd f.wa true && f.fr.ok && f.«to».ok else decide f.bare)
def nameT (l:List UInt8):List UInt8:=if l.any (fun c=>!letC c)=true then 60 :: (l++[62]) else l
def Ft.txt (f:Ft):List UInt8:=nameT f.sa++((clockL (-f.so)).1++(if f.has=true then nameT f.wa++((if f.wo - f.so≠3600 then (clockL (-f.wo)).1 else [])++44 :: (f.fr.txt++44 :: f.«to».txt)) else []))
def Ft.text (f:Ft):List UInt8×Bool:=if f.ok=true then (f.txt,true) else ([],false)
structure Us where
 ok:Bool
 rest:List UInt8
 o:Int
 a:List UInt8
structure Rp where
 ok:Bool
 rest:List UInt8
 r:Ru
def Ft.spans (f:Ft) (y:Int):Prop:=f.has=true∧f.ok=true∧1≤y∧y≤9999
instance (f:Ft) (y:Int):Decidable (f.spans y):=inferInstanceAs (Decidable (_∧_))
def Ft.from' (f:Ft) (y:Int):Int:=f.fr.at y - f.so
def Ft.to' (f:Ft) (y:Int):Int:=f.«to».at y - f.wo
def inDays (n:Int):Prop:=-719162≤n / 86400∧n / 86400≤2932896
instance (n:Int):Decidable (inDays n):=inferInstanceAs (Decidable (_∧_))
def Ft.sum (f:Ft) (p:Int):Prop:=inDays (p+f.so)∧f.spans (yearP ((p+f.so) / 86400)) ∧
 ((f.from' (yearP ((p+f.so) / 86400))≤p∧p < f.to' (yearP ((p+f.so) / 86400)))∨(f.to' (yearP ((p+f.so) / 86400))≤f.from' (yearP ((p+f.so) / 86400))∧(f.from' (yearP ((p+f.so) / 86400))≤p∨p < f.to' (yearP ((p+f.so) / 86400)))))
instance (f:Ft) (p:Int):Decidable (f.sum p):=inferInstanceAs (Decidable (_∧_))
end Go.Proofs.YtdjldmolhkkipaaGreatDoor.Pl
end
section
set_option linter.unusedVariables false
set_option linter.unusedSimpArgs false
namespace Go.Proofs.YtdjldmolhkkipaaGreatDoor
open Go Go.Proofs.YtdjldmolhkkipaaGreatDoor.Eng Go.Proofs.YtdjldmolhkkipaaGreatDoor.Pl
theorem sIndex (l:List UInt8) (c:UInt8) {K} (h:K (if nl (· == c) l < l.length then (nl (· == c) l:Int) else -1)):Xq04 (S l) (S [c]) K:=by
 unfold Xq04 Yq04
 simp only [S_size,S_toList,beq_iff_eq,List.length_singleton]
 refine ifF (by decide) (ifC (fun e=>?_) fun _=>ifT rfl (ifT (by decide) ?_))
 ·subst e
  have:nl (· == c) [c]=0:=by rw [nl_cons]; simp
  rw [this] at h; exact h
 ·unfold Xq2d
  rw [indexByte_nl,S_data]
  have:(Eng.bAt (S [c]) 0).toNat.toUInt8=c:=by rw [bAt0]; simp
  rw [this]; exact h
theorem sCut (l:List UInt8) (c:UInt8) (hl:l.length≤140737488351232) {K} (h:K (S (splitL c l).1) (S (splitL c l).2.1) (splitL c l).2.2):Xq20 (S l) (S [c]) K:=by
 unfold Xq20 Yq20 Xq07 Yq07
 refine sIndex l c ?_
 unfold splitL at h
 simp only [S_size,S_extract,List.length_singleton,decide_eq_true_eq,ge_iff_le]
 by_cases e:nl (· == c) l < l.length
 ·rw [if_pos e] at h
  simp only [if_pos e]
  rw [w64_in (by omega) (by omega)]
  refine ifT (by omega) (ifT (by omega) (ifT (by omega) (ifT (by omega) (ifT (by omega) ?_))))
  have e1:Int.toNat ((nl (· == c) l:Int)+((1:Nat):Int))=nl (· == c) l+1:=by omega
  have e2:Int.toNat ((nl (· == c) l:Int))=nl (· == c) l:=by omega
  rw [e1,e2]
  rw [show (l.drop (nl (· == c) l+1)).take (Int.toNat (l.length:Int) - (nl (· == c) l+1))=l.drop (nl (· == c) l+1) from List.take_of_length_le (by simp)]
  exact h
 ·rw [if_neg e] at h
  simp only [if_neg e]
  exact ifF (by omega) h
end Go.Proofs.YtdjldmolhkkipaaGreatDoor
end
section
set_option linter.unusedVariables false
set_option linter.unusedSimpArgs false
namespace Go.Proofs.YtdjldmolhkkipaaGreatDoor
open Go Go.Proofs.YtdjldmolhkkipaaGreatDoor.Eng Go.Proofs.YtdjldmolhkkipaaGreatDoor.Pl
theorem sitoa (n:Int) (h0:-9223372036854775808≤n) (h1:n≤9223372036854775807) {K} (h:K (S (itoaK n))):Xitoa n K :=
 ⟨⟨h0,h1⟩,by rw [← itoaK_eq n h0 h1]; exact h⟩
end Go.Proofs.YtdjldmolhkkipaaGreatDoor
end
section
set_option linter.unusedVariables false
set_option linter.unusedSimpArgs false
namespace Go.Proofs.YtdjldmolhkkipaaGreatDoor
open Go Go.Proofs.YtdjldmolhkkipaaGreatDoor.Eng Go.Proofs.YtdjldmolhkkipaaGreatDoor.Pl
theorem take_all (t:List UInt8) (k:Nat):(t.drop k).take (t.length - k)=t.drop k:=List.take_of_length_le (by simp)
end Go.Proofs.YtdjldmolhkkipaaGreatDoor
end
section
set_option linter.unusedVariables false
set_option linter.unusedSimpArgs false
namespace Go.Proofs.YtdjldmolhkkipaaGreatDoor
open Go Go.Proofs.YtdjldmolhkkipaaGreatDoor.Eng Go.Proofs.YtdjldmolhkkipaaGreatDoor.Pl
theorem tmod_leap (y:Int):(Int.tmod y 4=0↔y % 4=0)∧(Int.tmod y 100=0↔y % 100=0)∧(Int.tmod y 400=0↔y % 400=0):=by
 refine ⟨?_,?_,?_⟩ <;> rw [← Int.dvd_iff_emod_eq_zero,Int.dvd_iff_tmod_eq_zero]
theorem sleap (y:Int) {K} (h:K (leapY y)):Xq2g y K:=by
 unfold Xq2g Yq2g
 obtain ⟨t1,t2,t3⟩:=tmod_leap y
 have fin:∀ z:Bool,(z=true↔(y % 4=0∧(y % 100≠0∨y % 400=0)))→K z:=fun z hz=>cast (congrArg K (Bool.eq_iff_iff.2 ((leapY_iff y).trans hz.symm))) h
 simp only [beq_iff_eq,bne_iff_ne,ne_eq,t1,t2]
 refine ifC (fun h1=>ifC (fun h2=>fin _ ?_) fun h2=>fin _ ?_) fun h1=>fin _ ?_
 ·simp; omega
 ·rw [beq_iff_eq,t3]; omega
 ·simp; omega
theorem slast (y m:Int) {K} (h:K (if 1≤y∧y≤9999∧1≤m∧m≤12 then dim y m else 0) (decide (1≤y∧y≤9999∧1≤m∧m≤12))):Xq2k y m K:=by
 unfold Xq2k Yq2k
 simp only [decide_eq_true_eq,gt_iff_lt]
 by_cases e:1≤y∧y≤9999∧1≤m∧m≤12
 ·rw [if_pos e,decide_eq_true e] at h
  refine ifF (by omega) (ifF (by omega) (ifF (by omega) (ifF (by omega) ?_)))
  rw [w64_in (by omega) (by omega)]
  refine ifT (by omega) ?_
  rcases month_cases e.2.2.1 e.2.2.2 with rfl | rfl | rfl | rfl | rfl | rfl | rfl | rfl | rfl | rfl | rfl | rfl
  all_goals
   simp only [Int.sub_self,Int.reduceSub,Int.reduceToNat,Nat.reduceMul,List.getElem?_cons_zero,List.getElem?_cons_succ,Eng.asInt,if_true,beq_iff_eq,Int.toNat_zero,Nat.zero_mul,beq_self_eq_true,Int.reduceBEq,Bool.false_eq_true,if_false]
   first
   | exact h
   |(refine sleap _ ?_
     unfold dim at h
     rw [if_pos rfl] at h
     refine ifC (fun hl=>?_) fun hl=>?_
     ·rw [if_pos hl] at h; exact h
     ·rw [if_neg hl] at h; exact h)
 ·rw [if_neg e,decide_eq_false e] at h
  exact ifC (fun _=>h) fun _=>ifC (fun _=>h) fun _=>ifC (fun _=>h) fun _=>ifT (by omega) h
theorem ediv_in (a b:Int) (h0:-9223372036854775808≤a) (h1:a≤9223372036854775807) (hb:1≤b):-9223372036854775808≤a / b∧a / b≤9223372036854775807:=by
 constructor
 ·have:a≤a / b∨0≤a / b:=by
   by_cases hn:0≤a
   ·exact .inr (Int.ediv_nonneg hn (by omega))
   ·refine .inl (Int.le_ediv_of_mul_le (by omega) ?_)
    have:(b - 1) * a≤0:=Int.mul_nonpos_of_nonneg_of_nonpos (by omega) (by omega)
    rw [Int.sub_mul,Int.mul_comm b a] at this
    omega
  omega
 ·have:=Int.ediv_le_self (a:=a) b
  by_cases hn:0≤a
  ·have:=this hn; omega
  ·have:=Int.ediv_neg_of_neg_of_pos (by omega:a < 0) (by omega:0 < b); omega
theorem sdiv (a b:Int) (h0:-9223372036854775808≤a) (h1:a≤9223372036854775807) (hb:1≤b) (hb':b≤9223372036854775807) {K} (h:K (a / b) (a % b) true):Xq2o a b K:=by
 unfold Xq2o Yq2o
 have hm:=Int.emod_nonneg a (by omega:b≠0)
 have hm2:=Int.emod_lt_of_pos a (by omega:0 < b)
 obtain ⟨hq1,hq2⟩:=ediv_in a b h0 h1 hb
 simp only [decide_eq_true_eq,lt]
 refine ifF (by omega) (ifF (by omega) (ifF (by omega) ?_))
 by_cases hn:0≤a
 ·rw [Int.tmod_eq_emod_of_nonneg hn,Int.tdiv_eq_ediv_of_nonneg hn]
  refine ifF (by omega) ?_
  rw [w64_in hq1 hq2]; exact h
 ·by_cases hz:a % b=0
  ·have hd:b ∣ a:=Int.dvd_of_emod_eq_zero hz
   have e1:Int.tmod a b=0:=Int.tmod_eq_zero_of_dvd hd
   have e2:Int.tdiv a b=a / b:=by
    obtain ⟨c,rfl⟩:=hd
    rw [Int.mul_tdiv_cancel_left _ (by omega),Int.mul_ediv_cancel_left _ (by omega)]
   rw [e1,e2]
   refine ifF (by omega) ?_
   rw [w64_in hq1 hq2,← hz]; exact h
  ·have e1:Int.tmod a b=a % b - b:=by
    rw [Int.tmod_eq_emod]
    have:¬ (0≤a∨b ∣ a):=by
     rintro (h | h)
     ·exact hn h
     ·exact hz (Int.emod_eq_zero_of_dvd h)
    rw [if_neg this]
    have:(b.natAbs:Int)=b:=by omega
    omega
   have e2:Int.tdiv a b=a / b+1:=by
    have:=Int.mul_tdiv_add_tmod a b
    rw [e1] at this
    have hdm:=Int.mul_ediv_add_emod a b
    have h2:b * (Int.tdiv a b)=b * (a / b+1):=by rw [Int.mul_add]; omega
    exact Int.eq_of_mul_eq_mul_left (by omega) h2
   have hlt:a / b < 0:=Int.ediv_neg_of_neg_of_pos (by omega) (by omega)
   rw [e1,e2]
   refine ifT (by omega) ?_
   rw [w64_in (n:=a / b+1) (by omega) (by omega),w64_in (by omega) (by omega),w64_in (by omega) (by omega),show a / b+1 - 1=a / b by omega,show a % b - b+b=a % b by omega]
   exact h
def okD (y m d:Int):Prop:=1≤y∧y≤9999∧1≤m∧m≤12∧1≤d∧d≤dim y m
instance (y m d:Int):Decidable (okD y m d):=by unfold okD; infer_instance
theorem sday (n:Int) {K} (h:if -719162≤n∧n≤2932896 then K (yearP n) (monP n) (dayP n) true else K 0 0 0 false):Xq2j n K:=by
 unfold Xq2j Yq2j
 simp only [decide_eq_true_eq,gt_iff_lt,lt]
 by_cases e:-719162≤n∧n≤2932896
 ·rw [if_pos e] at h
  refine ifF (by omega) (ifF (by omega) ?_)
  rw [w64_in (n:=n+719468) (by omega) (by omega)]
  refine sdiv _ _ (by omega) (by omega) (by omega) (by omega) ?_
  have b1:0≤(n+719468) / 146097∧(n+719468) / 146097≤25:=by omega
  have b2:0≤(n+719468) % 146097∧(n+719468) % 146097≤146096:=by omega
  have hv:=doy_bd (by omega:-719162≤n) (by omega)
  unfold yearP monP dayP mon doy yrs era ofE at *
  generalize (n+719468) / 146097=q at *
  generalize (n+719468) % 146097=o at *
  have hg:0≤gy o∧gy o≤146096∧gy o=o - o / 1460+o / 36524 - o / 146096:=by unfold gy; omega
  simp (disch:=omega) only [w64_in,Int.tdiv_eq_ediv_of_nonneg]
  rw [← hg.2.2]
  have hY:0≤gy o / 365∧gy o / 365≤400:=by omega
  have hS:st (gy o / 365)=365 * (gy o / 365)+gy o / 365 / 4 - gy o / 365 / 100:=rfl
  rw [hS] at hv h
  generalize o - (365 * (gy o / 365)+gy o / 365 / 4 - gy o / 365 / 100)=D at *
  simp (disch:=omega) only [w64_in,Int.tdiv_eq_ediv_of_nonneg]
  refine ifC (fun hm=>?_) fun hm=>?_
  ·rw [if_pos (by omega),if_pos (by omega)] at h; exact h
  ·rw [if_neg (by omega),if_neg (by omega)] at h; exact h
 ·rw [if_neg e] at h
  exact ifC (fun _=>h) fun _=>ifT (by omega) h
theorem sadd (a b:Int) (ha:-9223372036854775808≤a∧a≤9223372036854775807) (hb:-9223372036854775808≤b∧b≤9223372036854775807) {K}
  (h:if -9223372036854775808≤a+b∧a+b≤9223372036854775807 then K (a+b) true else K 0 false):Xq2s a b K:=by
 unfold Xq2s Yq2s
 simp only [lt,bne_iff_ne,ne_eq]
 by_cases e:-9223372036854775808≤a+b∧a+b≤9223372036854775807
 ·rw [if_pos e] at h
  rw [w64_in e.1 e.2]
  exact ifC (fun h1=>ifC (fun h2=>absurd h1 (by simp; omega)) fun _=>h) fun _=>h
 ·rw [if_neg e] at h
  have hw:w64 (a+b)=if a+b < 0 then a+b+18446744073709551616 else a+b - 18446744073709551616:=by
   unfold w64 IntKind.wrap
   simp [IntKind.bits,IntKind.signed]
   split <;> omega
  rw [hw]
  refine ifT ?_ (ifT (by omega) h)
  split <;> simp <;> omega
end Go.Proofs.YtdjldmolhkkipaaGreatDoor
end
section
set_option linter.unusedVariables false
set_option linter.unusedSimpArgs false
namespace Go.Proofs.YtdjldmolhkkipaaGreatDoor
open Go Go.Proofs.YtdjldmolhkkipaaGreatDoor.Eng Go.Proofs.YtdjldmolhkkipaaGreatDoor.Pl
set_option maxRecDepth 100000
set_option maxHeartbeats 2000000
theorem kEnd (n:Int) {K} (h:K (endD n)):Xq2n n K:=by
 unfold Xq2n Yq2n
 refine sday n ?_
 unfold endD at h
 by_cases e:-719162≤n∧n≤2932896
 ·rw [if_pos e]
  rw [decide_eq_true e,Bool.true_and] at h
  refine slast _ _ ?_
  obtain ⟨⟨v1,v2,v3,v4,_⟩,_⟩:=num_date e.1 e.2
  rw [if_pos rfl,if_pos ⟨v1,v2,v3,v4⟩]; exact h
 ·rw [if_neg e]
  rw [decide_eq_false e,Bool.false_and] at h
  refine slast _ _ ?_
  rw [if_neg (by simp)]; exact h
theorem kWrong (k:Nat) (l:LR) (ahead:Int) {K} (h:K (wrongL k l ahead)):Xq24 (k:Int) (l.1,l.2.1,l.2.2,()) ahead K:=by
 unfold Xq24 Yq24
 unfold wrongL at h
 dsimp only
 simp only [decide_eq_true_eq,bne_iff_ne,ne_eq]
 by_cases h1:200≤k
 ·rw [if_pos h1] at h; rw [if_pos (by omega)]; exact h
 rw [if_neg h1] at h; rw [if_neg (by omega)]
 have rest:¬ (l.1 < 730∨2932896≤l.1)→Xq2n l.1 (fun r=>if (!r)=true then K 5 else if ¬ l.2.1=1 then (if ¬ l.2.1=-1 then K 6 else if l.1≤ahead then K 4 else K 0) else if l.1≤ahead then K 4 else K 0):=fun h2=>by
  rw [if_neg h2] at h
  refine kEnd _ ?_
  cases he:endD l.1
  ·rw [if_pos he] at h; exact h
  ·rw [if_neg (by simp [he])] at h
   rw [if_neg (by simp)]
   by_cases s1:l.2.1=1
   ·rw [if_neg (by omega)] at h; rw [if_neg (by omega)]
    by_cases h4:l.1≤ahead
    ·rw [if_pos h4] at h; rw [if_pos h4]; exact h
    ·rw [if_neg h4] at h; rw [if_neg h4]; exact h
   ·rw [if_pos s1]
    by_cases s2:l.2.1=-1
    ·rw [if_neg (by omega)] at h; rw [if_neg (by omega)]
     by_cases h4:l.1≤ahead
     ·rw [if_pos h4] at h; rw [if_pos h4]; exact h
     ·rw [if_neg h4] at h; rw [if_neg h4]; exact h
    ·rw [if_pos ⟨s1,s2⟩] at h; rw [if_pos s2]; exact h
 by_cases h2:l.1 < 730
 ·rw [if_pos (.inl h2)] at h
  rw [if_pos h2,if_pos h2]; exact h
 rw [if_neg h2]
 by_cases h3:l.1≥2932896
 ·rw [if_pos (.inr h3)] at h
  rw [if_pos h3]; exact h
 rw [if_neg h3]
 exact rest (by omega)
theorem kCheck (t:Tb) (hl:t.ls.length≤1000000) {K} (h:K ((checkT t).1:Int) (checkT t).2):Xq22 (TLV t.ls,t.has,t.ex,()) K:=by
 unfold Xq22 Yq22
 rw [TLV_len]
 unfold checkT at h
 refine lp_ind (fun x=>t.ls.length - x.1.2.2.2.2.2.2.1.toNat) (fun x=>∃ (j:Nat) (a:Int),j≤t.ls.length∧729≤a∧a≤2932896∧checkG j a (t.ls.drop j)=checkG 0 729 t.ls ∧
  x=(((),0,0,a,TLV t.ls,(t.ls.length:Int),(j:Int),()),(TLV t.ls,t.has,t.ex,()),())) ?_ ⟨0,729,by omega,by omega,by omega,rfl,rfl⟩
 rintro x ⟨j,a,hj,ha,ha',hc,rfl⟩ k hk
 unfold Lq22_0
 dsimp only
 rw [TLV_len,Int.toNat_natCast]
 by_cases e:j < t.ls.length
 ·rw [if_pos (decide_eq_true (by omega)),if_pos (by omega)]
  refine asL1 e (asL2 e (asL3 e ?_))
  refine kWrong j (t.ls[j]) a ?_
  rw [List.drop_eq_getElem_cons e,checkG] at hc
  by_cases hw:wrongL j t.ls[j] a=0
  ·rw [if_neg (by simp [hw])]
   rw [if_neg (by simp [hw])] at hc
   obtain ⟨_,q1,q2,_⟩:=wrongL_0 hw
   have w1:w64 ((j:Int)+1)=((j+1:Nat):Int):=by rw [w64_in (by omega) (by omega)]; omega
   rw [w1]
   exact hk _ ⟨j+1,_,e,by omega,by omega,hc,rfl⟩ (by show t.ls.length - Int.toNat ((j+1:Nat):Int) < t.ls.length - Int.toNat (j:Int); omega)
  ·rw [if_pos (by simpa using hw)]
   rw [if_pos hw] at hc
   rw [← hc,if_pos hw] at h
   exact h
 ·rw [if_neg (dneg (by omega))]
  have:j=t.ls.length:=by omega
  subst this
  rw [List.drop_length,checkG] at hc
  rw [← hc,if_neg (by simp)] at h
  unfold expB at h
  simp only [lt]
  have w1:w64 (w64 (a+1) * 86400)=(a+1) * 86400:=by rw [w64_in (n:=a+1) (by omega) (by omega),w64_in (by omega) (by omega)]
  rw [w1]
  cases hh:t.has
  ·rw [hh] at h
   rw [if_neg (by simp)]
   rw [if_neg (by simp)] at h
   by_cases h1:t.ex < 0
   ·rw [if_pos (decide_eq_true h1)]
    rw [if_pos (by omega)] at h; exact h
   rw [if_neg (dneg h1)]
   by_cases h2:t.ex > 0
   ·rw [if_pos (decide_eq_true h2)]
    rw [if_pos (by omega)] at h; exact h
   rw [if_neg (dneg h2)]
   rw [if_neg (by omega)] at h; exact h
  ·rw [hh,if_pos rfl] at h
   rw [if_pos rfl]
   generalize (if 63072000 > (a+1) * 86400 then 63072000 else (a+1) * 86400)=M at *
   by_cases h1:t.ex < M
   ·rw [if_pos (decide_eq_true h1)]
    rw [if_pos (.inl h1)] at h; exact h
   rw [if_neg (dneg h1)]
   by_cases h2:t.ex > 253402300799
   ·rw [if_pos (decide_eq_true h2)]
    rw [if_pos (.inr h2)] at h; exact h
   rw [if_neg (dneg h2)]
   rw [if_neg (by omega)] at h; exact h
theorem kRightT (t:Tb) (hl:t.ls.length≤1000000) {K} (h:K (rightT t)):Xq21 (TLV t.ls,t.has,t.ex,()) K:=by
 unfold Xq21 Yq21
 exact kCheck t hl h
theorem kClone (xs:List V) (hl:xs.length≤1000000) {K} (h:∀ f,K xs true f):Xq00 xs K:=by
 unfold Xq00 Yq00
 have hr:Eng.roomOk (0+xs.length) 24=true:=by unfold roomOk; rw [decide_eq_true_eq]; omega
 rw [if_pos hr,List.nil_append]
 by_cases e:xs.length=0
 ·rw [if_pos e]
  have:xs=[]:=List.length_eq_zero_iff.1 e
  subst this
  exact ⟨h _,h _⟩
 ·rw [if_neg e]; exact h _
theorem kAdd (t:Tb) (l:LR) (hl:t.ls.length≤100000) {K} (h:∀ o f,K ((),t.has,t.ex,()) (addT t l).2 (TLV (addT t l).1.ls) o f):Xq2h (TLV t.ls,t.has,t.ex,()) (l.1,l.2.1,l.2.2,()) K:=by
 unfold Xq2h Yq2h
 refine dup_of ?_
 refine kClone _ (by rw [TLV_len]; omega) fun f=>?_
 dsimp only
 rw [if_pos rfl,if_pos (by unfold roomOk; rw [decide_eq_true_eq,TLV_len,List.length_singleton]; omega)]
 simp only [lt]
 have e1:TLV t.ls++[Eng.V.agg [Eng.V.c (Value.int IntKind.i64 l.1),Eng.V.c (Value.int IntKind.i64 l.2.1),Eng.V.c (Value.bool l.2.2)]]=TLV (t.ls++[l]):=by simp [TLV,eLR]
 rw [e1]
 refine kCheck ⟨t.ls++[l],t.has,t.ex⟩ (by simp; omega) ?_
 unfold addT at h
 by_cases hc:(checkT ⟨t.ls++[l],t.has,t.ex⟩).2=0
 ·rw [if_neg (by simp [hc])]
  simp only [hc] at h
  exact h _ _
 ·rw [if_pos (by simpa using hc),if_pos ⟨by omega,trivial,by rw [TLV_len,TLV_len,List.length_append]; omega⟩]
  simp only [if_pos hc] at h
  have e2:List.take (Int.toNat ((TLV t.ls).length:Int)) (TLV (t.ls++[l]))=TLV t.ls:=by
   rw [← e1,Int.toNat_natCast]; simp
  rw [e2]; exact h _ _
end Go.Proofs.YtdjldmolhkkipaaGreatDoor
end
section
set_option linter.unusedVariables false
set_option linter.unusedSimpArgs false
namespace Go.Proofs.YtdjldmolhkkipaaGreatDoor
open Go Go.Proofs.YtdjldmolhkkipaaGreatDoor.Eng Go.Proofs.YtdjldmolhkkipaaGreatDoor.Pl
set_option maxRecDepth 100000
set_option maxHeartbeats 2000000
theorem kPre (n f:List UInt8) {K} (h:K (preB n f)):Xq0f (S n) (S f) K:=by
 unfold Xq0f Yq0f Xq02 Yq02
 simp only [S_size,S_extract,S_toList,decide_eq_true_eq,ge_iff_le,Int.toNat_natCast,List.drop_zero,Nat.sub_zero]
 unfold preB at h
 by_cases e:f.length≤n.length
 ·rw [if_pos (by omega),if_pos (by omega)]; exact h
 ·rw [if_neg (by omega)]
  have:(n.take f.length == f)=false:=by
   simp only [beq_eq_false_iff_ne]
   intro hh
   have:=congrArg List.length hh
   simp at this; omega
  rw [this] at h; exact h
theorem kIndex (l:List UInt8) (c:UInt8) {K} (h:K (if nl (· == c) l < l.length then (nl (· == c) l:Int) else -1)):Xq1t (S l) (S [c]) K:=by
 unfold Xq1t Yq1t
 exact sIndex l c h
theorem kCut (l:List UInt8) (hl:l.length≤140737488351232) {K} (h:∀ b o,K (S (bareL l)) b o):Xq20 (S l) (S [35]) K:=by
 refine sCut l 35 hl ?_
 have:(splitL 35 l).1=bareL l:=by
  unfold splitL bareL
  split
  ·rfl
  ·rename_i hh
   have:=nl_le (· == (35:UInt8)) l
   rw [List.take_of_length_le (by omega)]
 rw [this]; exact h _ _
theorem kTrim (l:List UInt8) (hl:l.length≤140737488351232) {K} (h:K (S (trimR l))):Xq0d (S l) (S [13]) K:=by
 unfold Xq0d Yq0d Xq01 Yq01 Xq03 Yq03
 simp only [S_size,S_extract,S_toList,decide_eq_true_eq,ge_iff_le,List.length_singleton,lt]
 unfold trimR at h
 by_cases e:1≤l.length
 ·have e1:w64 ((l.length:Int) - ((1:Nat):Int))=(l.length:Int) - 1:=w64_in (by omega) (by omega)
  rw [if_pos (by omega),if_pos (by omega),e1,if_pos (by omega)]
  have e2:Int.toNat ((l.length:Int) - 1)=l.length - 1:=by omega
  have e3:(List.take (Int.toNat (l.length:Int) - (l.length - 1)) (List.drop (l.length - 1) l) == [13])=(l.getLast? == some 13):=by
   have:Int.toNat (l.length:Int) - (l.length - 1)=1:=by omega
   rw [this,List.drop_eq_getElem_cons (show l.length - 1 < l.length by omega),List.take_succ_cons,List.take_zero,List.getLast?_eq_getElem?,List.getElem?_eq_getElem (show l.length - 1 < l.length by omega)]
   simp
  rw [e2,e3]
  cases hh:(l.getLast? == some 13)
  ·rw [if_neg (by simp)]
   rw [if_neg (by simpa using hh)] at h; exact h
  ·rw [if_pos rfl,if_pos (by omega),if_pos (by omega)]
   rw [if_pos (by simpa using hh)] at h
   rw [List.dropLast_eq_take] at h
   simpa using h
 ·have:l=[]:=by cases l <;> simp at e ⊢
  subst this
  rw [if_neg (by simp),if_neg (by simp)]
  simpa using h
def e0:V:=.c (.string (S []))
theorem WV_set (done:List (List UInt8)) (k:Nat) (r:List UInt8) :
  List.set (WV done++List.replicate (k+1) e0) done.length (Eng.setE (List.getD (WV done++List.replicate (k+1) e0) done.length Eng.V.bad) 0 [.c (.string (S r))])=WV (done++[r])++List.replicate k e0:=by
 rw [List.replicate_succ]
 have:=WV_len done
 rw [← this,getD_mid,set_mid,WV_app]
 simp [WV,Eng.setE,e0]
theorem kGenLoop (c:UInt8) {K:List V→Bool→Bool→Prop} (k:Nat) (rest:List UInt8) (done:List (List UInt8)) (hb:rest.length+k+done.length≤1000000000) (hk:K (WV (done++splN c k rest)) true false) :
  Eng.lp (Lq0u_0 Xq1t K) ((S rest,S [c],(0:Int),((done.length+k:Nat):Int),(),(),(done.length:Int),()),WV done++List.replicate (k+1) e0,()):=by
 refine lp_ind (fun x=>(x.1.2.2.2.1 - x.1.2.2.2.2.2.2.1).toNat) (fun x=>∃ (k:Nat) (rest:List UInt8) (done:List (List UInt8)),rest.length+k+done.length≤1000000000∧K (WV (done++splN c k rest)) true false ∧
  x=((S rest,S [c],(0:Int),((done.length+k:Nat):Int),(),(),(done.length:Int),()),WV done++List.replicate (k+1) e0,())) ?_ ⟨k,rest,done,hb,hk,rfl⟩
 rintro x ⟨k,rest,done,hb,hk,rfl⟩ kk hkk
 unfold Lq0u_0
 simp only [decide_eq_true_eq,lt,Int.toNat_natCast]
 have l1:(WV done++List.replicate (k+1) e0).length=done.length+(k+1):=by simp [WV_len]
 have l2:∀ r,(WV (done++[r])++List.replicate k e0).length=done.length+(k+1):=fun r=>by simp [WV_len]; omega
 have w1:w64 ((done.length:Int)+1)=(done.length:Int)+1:=w64_in (by omega) (by omega)
 have t1:∀ r,List.take (done.length+1) (WV (done++[r])++List.replicate k e0)=WV (done++[r]):=fun r=>List.take_left' (by simp [WV_len])
 have n1:Int.toNat ((done.length:Int)+1)=done.length+1:=by omega
 simp only [WV_set,l1,l2,w1,n1,Nat.sub_zero,t1]
 by_cases e:k=0
 ·subst e
  rw [if_neg (by omega),if_pos (by omega),if_pos (by omega),if_pos (by omega),if_pos (by omega),if_pos (Nat.ble_eq_true_of_le (by omega))]
  exact hk
 ·obtain ⟨k,rfl⟩:∃ j,k=j+1:=⟨k - 1,by omega⟩
  rw [if_pos (by omega)]
  refine kIndex rest c ?_
  rw [splN] at hk
  by_cases hn:nl (· == c) rest < rest.length
  ·rw [if_pos hn] at hk ⊢
   have w2:w64 ((nl (· == c) rest:Int)+0)=(nl (· == c) rest:Int):=by rw [Int.add_zero]; exact w64_in (by omega) (by omega)
   have w3:w64 ((nl (· == c) rest:Int)+(([c]:List UInt8).length:Int))=(nl (· == c) rest:Int)+1:=by exact w64_in (by simp; omega) (by simp; omega)
   have n2:Int.toNat ((nl (· == c) rest:Int)+1)=nl (· == c) rest+1:=by omega
   simp only [w2,w3,S_size,Int.toNat_natCast,n2,S_extract,WV_set,List.drop_zero,Nat.sub_zero]
   rw [if_neg (by omega),if_pos (by omega),if_pos (by omega),if_pos (by omega),if_pos (by omega),if_pos (by omega),if_pos (by omega)]
   refine hkk _ ⟨k,rest.drop (nl (· == c) rest+1),done++[rest.take (nl (· == c) rest)],?_,?_,?_⟩ ?_
   ·simp; omega
   ·rw [List.append_assoc]; exact hk
   ·have:(rest.drop (nl (· == c) rest+1)).take (rest.length - (nl (· == c) rest+1))=rest.drop (nl (· == c) rest+1):=List.take_of_length_le (by simp)
    rw [this]
    simp only [List.length_append,List.length_singleton,Prod.mk.injEq,true_and,and_true]
    omega
   ·simp; omega
  ·rw [if_neg hn] at hk ⊢
   rw [if_pos (by omega),if_pos (by omega),if_pos (by omega),if_pos (by omega),if_pos (by omega),if_pos (Nat.ble_eq_true_of_le (by omega))]
   exact hk
theorem kSplit (l:List UInt8) (c:UInt8) (hl:l.length≤2000000) {K} (h:K (WV (spl c l)) true false):Xq1s (S l) (S [c]) K:=by
 unfold Xq1s Yq1s Xq0u Yq0u
 simp only [beq_iff_eq,decide_eq_true_eq,lt,kS_nil]
 rw [if_neg (by omega),if_neg (by simp),if_pos (by omega)]
 refine ⟨c,rfl,?_⟩
 rw [S_data]
 have hc:Lib.countByte l c=l.count c:=rfl
 have hc':=List.count_le_length (a:=c) (l:=l)
 rw [hc]
 dsimp only
 rw [show Eng.ofVal (Value.string (ByteArray.mk #[]))=e0 from rfl]
 have w1:w64 (((S l).size:Int)+1)=(l.length:Int)+1:=by rw [S_size]; exact w64_in (by omega) (by omega)
 have w2:w64 ((l.count c:Int)+1)=((l.count c+1:Nat):Int):=by rw [w64_in (by omega) (by omega)]; omega
 rw [w1,w2,if_neg (show ¬ ((l.length:Int)+1 < ((l.count c+1:Nat):Int)) by omega),if_pos (by omega)]
 have w3:w64 (((l.count c+1:Nat):Int) - 1)=((l.count c:Nat):Int):=by rw [w64_in (by omega) (by omega)]; omega
 rw [w3]
 have:=kGenLoop c (K:=fun r3 r4 r5=>K r3 r4 r5) (l.count c) l [] (by simp; omega) (by rw [List.nil_append,splN_spl c _ l (Nat.le_refl _)]; exact h)
 simpa [WV] using this
theorem kLines (l:List UInt8) (hl:l.length≤2000000) {K} (h:K (WV (linesL l)) true false):Xq1x (S l) K:=by
 unfold Xq1x Yq1x
 refine kSplit l 10 hl ?_
 obtain ⟨q1,q2,q3⟩:=spl_len 10 l
 unfold linesL at h
 generalize spl 10 l=ls at *
 have w1:w64 (((WV ls).length:Int) - 1)=((ls.length - 1:Nat):Int):=by rw [WV_len,w64_in (by omega) (by omega)]; omega
 have step:∀ (n:Nat) (hn:n < ls.length),List.set (WV ((ls.take n).map trimR++ls.drop n)) n (Eng.setE (List.getD (WV ((ls.take n).map trimR++ls.drop n)) n Eng.V.bad) 0 [.c (.string (S (trimR ls[n])))])=WV ((ls.take (n+1)).map trimR++ls.drop (n+1)):=fun n hn=>by
  have hl1:(WV ((ls.take n).map trimR)).length=n:=by simp [WV_len]; omega
  rw [WV_app,List.drop_eq_getElem_cons hn]
  have e1:WV (ls[n] :: ls.drop (n+1)) = .c (.string (S ls[n])) :: WV (ls.drop (n+1)):=rfl
  rw [e1]
  have g:=getD_mid (WV ((ls.take n).map trimR)) V.bad (.c (.string (S ls[n]))) (WV (ls.drop (n+1)))
  have s:=set_mid (WV ((ls.take n).map trimR)) (.c (.string (S (trimR ls[n])))) (.c (.string (S ls[n]))) (WV (ls.drop (n+1)))
  rw [hl1] at g s
  rw [g]
  show List.set _ n (V.c (.string (S (trimR ls[n]))))=_
  rw [s,WV_app,List.take_succ_eq_append_getElem hn,List.map_append,WV_app]
  simp [WV]
 have at':∀ (n:Nat) (hn:n < ls.length),((ls.take n).map trimR++ls.drop n)[n]'(by simp; omega)=ls[n]:=fun n hn=>by
  rw [List.getElem_append_right (by simp; omega)]
  simp [Nat.min_eq_left (Nat.le_of_lt hn)]
 have len':∀ n,n≤ls.length→(WV ((ls.take n).map trimR++ls.drop n)).length=ls.length:=fun n hn=>by simp [WV_len]; omega
 rw [w1,if_pos (by rw [WV_len]; omega)]
 simp only [Int.toNat_natCast,Nat.sub_zero]
 refine asW (by omega) ?_
 rw [kS_nil]
 have hlast:ls.getLast? = some (ls[ls.length - 1]'(by omega)):=by rw [List.getLast?_eq_getElem?,List.getElem?_eq_getElem (by omega)]
 cases he:(ls[ls.length - 1]'(by omega)).isEmpty
 ·have:ls.getLast?≠some []:=by
   rw [hlast]; intro hh
   simp only [Option.some.injEq] at hh
   rw [hh] at he; cases he
  rw [if_neg this] at h
  rw [if_neg (by simp)]
  refine lp_at (fun n=>(((),(),(ls.length:Int),(n:Int),()),(WV ((ls.take n).map trimR++ls.drop n),true,false),())) ls.length (by simp [WV_len]) fun n hn k hk=>?_
  unfold Lq1x_1
  simp only [decide_eq_true_eq,len' n hn,Int.toNat_natCast]
  by_cases e:n < ls.length
  ·rw [if_pos (by omega),if_pos (by omega)]
   refine asW (by simp; omega) ?_
   rw [at' n e]
   refine kTrim _ (by have:=q3 _ (List.getElem_mem e); omega) ?_
   rw [if_pos (by omega),if_pos trivial,if_pos e]
   have:=hk e
   rw [step n e]
   have w2:w64 ((n:Int)+1)=((n+1:Nat):Int):=by rw [w64_in (by omega) (by omega)]; omega
   rw [w2]; exact this
  ·have:n=ls.length:=by omega
   subst this
   rw [if_neg (by omega)]
   simpa using h
 ·have h0:ls[ls.length - 1]'(by omega)=[]:=by simpa using he
  have:ls.getLast? = some []:=by rw [hlast,h0]
  rw [if_pos this] at h
  rw [if_pos rfl,if_pos (by rw [WV_len]; omega),if_pos (by omega)]
  refine lp_at (fun n=>(((),ls.length - 1,((ls.length - 1:Nat):Int),(n:Int),()),(WV ((ls.take n).map trimR++ls.drop n),true,false),())) (ls.length - 1) (by simp) fun n hn k hk=>?_
  unfold Lq1x_0
  simp only [decide_eq_true_eq,len' n (by omega),Int.toNat_natCast,Nat.zero_add]
  by_cases e:n < ls.length - 1
  ·rw [if_pos (by omega),if_pos (by omega)]
   refine asW (by simp; omega) ?_
   rw [at' n (by omega)]
   refine kTrim _ (by have:=q3 _ (List.getElem_mem (show n < ls.length by omega)); omega) ?_
   rw [if_pos (by omega),if_pos trivial,if_pos (by omega)]
   have:=hk e
   rw [step n (by omega)]
   have w2:w64 ((n:Int)+1)=((n+1:Nat):Int):=by rw [w64_in (by omega) (by omega)]; omega
   simp only [lt]
   rw [w2]; exact this
  ·have:n=ls.length - 1:=by omega
   subst this
   rw [if_neg (by omega),if_pos trivial,if_pos trivial,if_pos (Nat.ble_eq_true_of_le (by omega))]
   have e1:List.take (ls.length - 1) (WV ((ls.take (ls.length - 1)).map trimR++ls.drop (ls.length - 1)))=WV (ls.dropLast.map trimR):=by
    rw [WV_app,List.take_left' (by simp [WV_len]),List.dropLast_eq_take]
   rw [e1]; exact h
end Go.Proofs.YtdjldmolhkkipaaGreatDoor
end
section
set_option linter.unusedVariables false
set_option linter.unusedSimpArgs false
namespace Go.Proofs.YtdjldmolhkkipaaGreatDoor
open Go Go.Proofs.YtdjldmolhkkipaaGreatDoor.Eng Go.Proofs.YtdjldmolhkkipaaGreatDoor.Pl
set_option maxRecDepth 100000
set_option maxHeartbeats 2000000
theorem take_more (l:List UInt8) (a p w:Nat) (h:a≤p):(l.drop a).take (p - a)++(l.drop p).take w=(l.drop a).take (p+w - a):=by
 have e:p+w - a=(p - a)+w:=by omega
 rw [e,List.take_add,List.drop_drop]
 congr 2
 congr 1; omega
theorem kWords (l:List UInt8) (hl:l.length≤1000000) {K} (h:K (WV (wordsL l)) true false):Xq1z (S l) K:=by
 unfold Xq1z Yq1z
 rw [if_neg (by rw [S_size]; omega),show S l++ByteArray.mk #[32]=S (l++[32]) from S_append l [32]]
 have hlen:(l++[32]).length=l.length+1:=by simp
 refine lp_ind (fun x=>l.length+1 - x.2.1.2) (fun x=>∃ (pos:Nat) (f:Int) (cur:List UInt8) (done:List (List UInt8)),pos≤l.length+1 ∧
  ((f=-1∧cur=[])∨∃ a:Nat,f=(a:Int)∧a < pos∧pos≤l.length∧cur=(l.drop a).take (pos - a))∧done++wd cur ((l++[32]).drop pos)=wordsL l ∧
  x=((S l,(),f,(),()),(S (l++[32]),pos),WV done,())) ?_ ⟨0,-1,[],[],by omega,.inl ⟨rfl,rfl⟩,by rw [List.drop_zero,List.nil_append,wd_blank]; rfl,rfl⟩
 rintro x ⟨pos,f,cur,done,hp,hf,hw,rfl⟩ k hk
 unfold Lq1z_0
 simp only [S_size,hlen,decide_eq_true_eq]
 have hdl:done.length≤l.length+1:=by
  have h1:=congrArg List.length hw
  have h2:=(wd_len l []).1
  unfold wordsL at h1
  simp at h1; omega
 by_cases e:pos < l.length+1
 ·rw [if_pos e]
  have hpos:pos < (l++[32]).length:=by omega
  have hdrop:(l++[32]).drop pos=(l++[32])[pos] :: (l++[32]).drop (pos+1):=List.drop_eq_getElem_cons hpos
  have key:(blankB (l++[32])[pos]=true∧Utf8.decode (S (l++[32])) pos=((l++[32])[pos].toNat,1)) ∨
    (∃ r w,Utf8.decode (S (l++[32])) pos=(r,w)∧r≠32∧r≠9∧1≤w∧pos+w≤l.length∧∀ c∈(l.drop pos).take w,blankB c=false):=by
   have lastb:∀ w,pos+w≤l.length+1→(∀ c∈((l++[32]).drop pos).take w,blankB c=false)→1≤w→pos+w≤l.length∧∀ c∈(l.drop pos).take w,blankB c=false:=fun w hw1 hw2 hw3=>by
    have hle:pos+w≤l.length:=by
     by_cases e2:pos+w=l.length+1
     ·exfalso
      have:(32:UInt8)∈((l++[32]).drop pos).take w:=by
       have hz:(((l++[32]).drop pos).take w)[w - 1]? = some 32:=by
        rw [List.getElem?_take,if_pos (by omega),List.getElem?_drop,List.getElem?_append_right (by omega)]
        have:pos+(w - 1) - l.length=0:=by omega
        rw [this]; rfl
       exact List.mem_of_getElem? hz
      have:=hw2 _ this
      simp [blankB] at this
     ·omega
    refine ⟨hle,fun c hc=>hw2 c ?_⟩
    rw [List.drop_append_of_le_length (by omega),List.take_append_of_le_length (by simp; omega)]
    exact hc
   by_cases hb:(l++[32])[pos].toNat < 128
   ·have hd:=decode_lo (l++[32]) pos hpos hb
    cases hbl:blankB (l++[32])[pos]
    ·refine .inr ⟨_,1,hd,fun h32=>?_,fun h9=>?_,Nat.le_refl _,lastb 1 (by omega) (fun c hc=>?_) (Nat.le_refl _)⟩
     ·rw [show (l++[32])[pos]=32 from u8_eq h32] at hbl; simp [blankB] at hbl
     ·rw [show (l++[32])[pos]=9 from u8_eq h9] at hbl; simp [blankB] at hbl
     ·rw [hdrop,List.take_succ_cons,List.take_zero,List.mem_singleton] at hc
      rw [hc]; exact hbl
    ·exact .inl ⟨rfl,hd⟩
   ·obtain ⟨d1,d2,d3,d4⟩:=decode_cont (l++[32]) pos hpos (by omega)
    rw [hlen] at d3
    generalize Utf8.decode (S (l++[32])) pos=dc at *
    obtain ⟨r,w⟩:=dc
    dsimp only at d1 d2 d3 d4
    refine .inr ⟨r,w,rfl,by omega,by omega,d2,lastb _ (by omega) (fun c hc=>?_) d2⟩
    have:=d4 c hc
    simp only [blankB,Bool.or_eq_false_iff,beq_eq_false_iff_ne]
    constructor <;> (intro hcc; subst hcc; revert this; decide)
  rcases key with ⟨hbl,hd⟩ | ⟨r,w,hd,n32,n9,w1,hpw,hnb⟩
  ·rw [hd]
   dsimp only
   have hwd:wd cur ((l++[32]).drop pos)=if cur=[] then wd [] ((l++[32]).drop (pos+1)) else cur :: wd [] ((l++[32]).drop (pos+1)):=by
    rw [hdrop,wd,if_pos hbl]
   rw [hwd] at hw
   have val:(((l++[32])[pos].toNat:Int)=32)∨(((l++[32])[pos].toNat:Int)=9):=by
    simp only [blankB,Bool.or_eq_true,beq_iff_eq] at hbl
    rcases hbl with hbl | hbl <;> rw [hbl]
    ·exact .inl rfl
    ·exact .inr rfl
   have next:cur=[]→k ((S l,(),f,(),()),(S (l++[32]),pos+1),WV done,()):=fun hc=>by
    rw [if_pos hc] at hw
    refine hk _ ⟨pos+1,f,[],done,by omega,.inl ⟨?_,rfl⟩,hw,rfl⟩ (by show l.length+1 - (pos+1) < l.length+1 - pos; omega)
    rcases hf with hf | ⟨a,h1,h2,h3,h4⟩
    ·exact hf.1
    ·exfalso
     rw [hc] at h4
     have:=congrArg List.length h4
     simp at this; omega
   have flush:(a:Nat)→f=(a:Int)→a < pos→pos≤l.length→cur=(l.drop a).take (pos - a) →
     (if 0≤(pos:Int)∧(pos:Int)≤(l.length:Int) then
     (if 0≤f∧f≤(pos:Int) then
     (if Eng.roomOk (List.length (WV done)+List.length [Eng.V.c (Value.string (ByteArray.extract (S l) (Int.toNat f) (Int.toNat (pos:Int))))]) (16:Nat)=true then
     k ((S l,(),(-1),(),()),(S (l++[32]),pos+1),WV done++[Eng.V.c (Value.string (ByteArray.extract (S l) (Int.toNat f) (Int.toNat (pos:Int))))],())
     else False) else False) else False):=fun a h1 h2 h3 h4=>by
    subst h1
    have hc:cur≠[]:=fun hc=>by
     rw [hc] at h4
     have:=congrArg List.length h4
     simp at this; omega
    rw [if_neg hc] at hw
    rw [if_pos (by omega),if_pos (by omega),if_pos (by simp [roomOk,WV_len]; omega)]
    have e1:WV done++[Eng.V.c (Value.string (ByteArray.extract (S l) (Int.toNat (a:Int)) (Int.toNat (pos:Int))))]=WV (done++[cur]):=by
     rw [WV_app,h4,S_extract]; rfl
    rw [e1]
    exact hk _ ⟨pos+1,-1,[],done++[cur],by omega,.inl ⟨rfl,rfl⟩,by rw [List.append_assoc]; exact hw,rfl⟩ (by show l.length+1 - (pos+1) < l.length+1 - pos; omega)
   rcases hf with ⟨hf,hc⟩ | ⟨a,h1,h2,h3,h4⟩
   ·have nx:=next hc
    subst hf
    rcases val with v | v <;> rw [v]
    ·rw [if_pos (by simp),if_neg (by omega)]; exact nx
    ·rw [if_neg (by simp),if_pos (by simp),if_neg (by omega),if_neg (by simp)]; exact nx
   ·have fl:=flush a h1 h2 h3 h4
    rcases val with v | v <;> rw [v]
    ·rw [if_pos (by simp),if_pos (by omega)]; exact fl
    ·rw [if_neg (by simp),if_pos (by simp),if_pos (by omega)]; exact fl
  ·rw [hd]
   dsimp only
   rw [if_neg (by simp; omega),if_neg (by simp; omega),if_pos (by simp; omega)]
   have hsk:(l++[32]).drop pos=(l.drop pos).take w++(l++[32]).drop (pos+w):=by
    have:(l++[32]).drop pos=((l++[32]).drop pos).take w++((l++[32]).drop pos).drop w:=(List.take_append_drop w _).symm
    rw [List.drop_drop] at this
    rw [this]
    congr 1
    rw [List.drop_append_of_le_length (by omega),List.take_append_of_le_length (by simp; omega)]
   rw [hsk,wd_skip _ _ _ hnb] at hw
   rcases hf with ⟨hf,hc⟩ | ⟨a,h1,h2,h3,h4⟩
   ·subst hf; subst hc
    rw [if_pos (by omega)]
    exact hk _ ⟨pos+w,(pos:Int),(l.drop pos).take w,done,by omega,.inr ⟨pos,rfl,by omega,hpw,by congr 1; omega⟩,by rw [List.nil_append] at hw; exact hw,rfl⟩ (by show l.length+1 - (pos+w) < l.length+1 - pos; omega)
   ·subst h1
    rw [if_neg (by omega)]
    refine hk _ ⟨pos+w,(a:Int),cur++(l.drop pos).take w,done,by omega,.inr ⟨a,rfl,by omega,hpw,?_⟩,hw,rfl⟩ (by show l.length+1 - (pos+w) < l.length+1 - pos; omega)
    rw [h4,take_more l a pos w (by omega)]
 ·rw [if_neg e]
  have hpe:pos=l.length+1:=by omega
  rcases hf with ⟨hf,hc⟩ | ⟨a,h1,h2,h3,h4⟩
  ·subst hc
   rw [hpe,List.drop_eq_nil_of_le (by omega),wd,if_pos rfl,List.append_nil] at hw
   rw [hw]; exact h
  ·omega
theorem and_lo (a:Int) (h0:0≤a) (h1:a≤9223372036854775807):((BitVec.toNat (BitVec.ofInt 64 a &&& BitVec.ofInt 64 4294967295):Nat):Int)=a % 4294967296:=by
 obtain ⟨n,rfl⟩:∃ n:Nat,a=(n:Int):=⟨a.toNat,by omega⟩
 rw [BitVec.toNat_and]
 have e1:(BitVec.ofInt 64 (n:Int)).toNat=n:=by
  rw [BitVec.toNat_ofInt]; omega
 have e2:(BitVec.ofInt 64 4294967295).toNat=2 ^ 32 - 1:=by decide
 rw [e1,e2,Nat.and_two_pow_sub_one_eq_mod]
 omega
theorem kMul (a:Int) (h0:0≤a) (h1:a≤9223372036854775807) {K} (h:K (if a * 10≤9223372036854775807 then a * 10 else 0) (decide (a * 10≤9223372036854775807))):Xq2p a 10 K:=by
 unfold Xq2p Yq2p Xq2f Yq2f Xq1c Yq1c
 simp only [decide_eq_true_eq,lt]
 rw [if_neg (by omega),if_neg (by omega),wu64_in (n:=a) h0 (by omega),wu64_in (n:=10) (by omega) (by omega)]
 have b0:((BitVec.toNat (BitVec.ofInt 64 10 &&& BitVec.ofInt 64 4294967295):Nat):Int)=10:=by decide
 rw [and_lo a h0 h1,b0]
 have fd:∀ x:Int,0≤x→Int.fdiv x 4294967296=x / 4294967296:=fun x hx=>Int.fdiv_eq_ediv_of_nonneg _ (by omega)
 have x0:0≤a % 4294967296∧a % 4294967296 < 4294967296:=by omega
 have x1:0≤a / 4294967296∧a / 4294967296 < 2147483648:=by omega
 rw [fd a h0,show Int.fdiv 10 4294967296=0 from by decide]
 generalize hA:a % 4294967296=A at *
 generalize hB:a / 4294967296=B at *
 have ha:a=B * 4294967296+A:=by omega
 rw [wu64_in (n:=A) (by omega) (by omega),wu64_in (n:=10) (by omega) (by omega),wu64_in (n:=A * 10) (by omega) (by omega),wu64_in (n:=B * 10) (by omega) (by omega),Int.mul_zero,Int.mul_zero,wu64_in (n:=0) (by omega) (by omega)]
 rw [fd (A * 10) (by omega)]
 generalize hC:A * 10 / 4294967296=C at *
 have hc:0≤C∧C≤9:=by omega
 rw [wu64_in (n:=B * 10+C) (by omega) (by omega),and_lo (B * 10+C) (by omega) (by omega),fd (B * 10+C) (by omega)]
 generalize hD:(B * 10+C) % 4294967296=D at *
 generalize hE:(B * 10+C) / 4294967296=E at *
 have hd:0≤D∧D < 4294967296:=by omega
 have he:0≤E∧E≤4:=by omega
 rw [wu64_in (n:=D) (by omega) (by omega),Int.add_zero,wu64_in (n:=D) (by omega) (by omega),fd D (by omega),Int.zero_add,wu64_in (n:=E) (by omega) (by omega)]
 have hd0:D / 4294967296=0:=by omega
 rw [hd0,Int.add_zero,wu64_in (n:=E) (by omega) (by omega)]
 rw [if_neg (by simp; omega)]
 by_cases hE0:E=0
 ·have hm:a * 10≤18446744073709551615:=by omega
  rw [if_neg (by simp [hE0]),wu64_in (n:=a * 10) (by omega) hm]
  by_cases hx:a * 10≤9223372036854775807
  ·rw [if_pos hx,decide_eq_true hx] at h
   rw [if_neg (by omega),w64_in (by omega) hx]; exact h
  ·rw [if_neg hx,decide_eq_false hx] at h
   rw [if_pos (by omega)]; exact h
 ·have hx:¬ a * 10≤9223372036854775807:=by omega
  rw [if_neg hx,decide_eq_false hx] at h
  rw [if_pos (by simp [hE0])]; exact h
theorem foldl_ge:∀ (b:List UInt8) (n:Nat),n≤b.foldl (fun n c=>10 * n+(c.toNat - 48)) n
 | [],n=>Nat.le_refl _
 | c :: b,n=>by
  rw [List.foldl_cons]
  have:=foldl_ge b (10 * n+(c.toNat - 48))
  omega
theorem val_take (l:List UInt8) (n:Nat) (hn:n < l.length):valL (l.take (n+1))=10 * valL (l.take n)+(l[n].toNat - 48):=by
 unfold valL; rw [List.take_succ_eq_append_getElem hn,List.foldl_append]; rfl
theorem val_pre (l:List UInt8) (n:Nat):valL (l.take n)≤valL l:=by
 have:valL l=(l.drop n).foldl (fun n c=>10 * n+(c.toNat - 48)) (valL (l.take n)):=by
  unfold valL
  rw [← List.foldl_append,List.take_append_drop]
 rw [this]
 exact foldl_ge _ _
theorem kNumber (l:List UInt8) (hl:l.length≤1000000) {K} (h:K (numL l).1 (numL l).2):Xq1w (S l) K:=by
 unfold Xq1w Yq1w
 rw [bytesV_S,B8_len]
 refine lp_ind (fun x=>(l.length:Int).toNat - x.1.2.2.2.2.2.1.toNat) (fun x=>∃ n:Nat,n≤l.length∧(∀ c∈l.take n,isDig c=true)∧valL (l.take n)≤9223372036854775807 ∧
  x=((S l,(valL (l.take n):Int),false,(),(l.length:Int),(n:Int),()),B8 l,())) ?_ ⟨0,by omega,by simp,by simp [valL],rfl⟩
 rintro x ⟨n,hn,hd,hv,rfl⟩ k hk
 unfold Lq1w_0
 simp only [decide_eq_true_eq,B8_len,Int.toNat_natCast,S_size]
 by_cases e:n < l.length
 ·have bad:numL l=(0,false)→K 0 false:=fun hb=>by rw [hb] at h; exact h
  rw [if_pos (by omega),if_pos (by omega)]
  refine asB8 e ?_
  have hc:=u8_lt l[n]
  have w1:w64 (w64 (l[n].toNat:Int) - 48)=(l[n].toNat:Int) - 48:=by rw [w64_in (n:=(l[n].toNat:Int)) (by omega) (by omega),w64_in (by omega) (by omega)]
  rw [w1]
  have hdig:isDig l[n]=decide (48≤l[n].toNat∧l[n].toNat≤57):=by unfold isDig; simp
  have nod:isDig l[n]=false→numL l=(0,false):=fun hno=>by
   unfold numL
   rw [if_neg]
   rintro ⟨_,h2,_⟩
   have:=List.all_eq_true.1 h2 l[n] (List.getElem_mem e)
   rw [hno] at this; cases this
  refine kMul _ (by omega) (by omega) ?_
  by_cases hm:(valL (l.take n):Int) * 10≤9223372036854775807
  ·rw [if_pos hm,decide_eq_true hm]
   refine sadd _ _ (by omega) (by omega) ?_
   by_cases d1:(l[n].toNat:Int) < 48
   ·have g:isDig l[n]=false:=by rw [hdig]; simp; omega
    have:=bad (nod g)
    split <;> first | exact this | (rw [if_pos d1]; exact this)
   by_cases d2:(l[n].toNat:Int) > 57
   ·have g:isDig l[n]=false:=by rw [hdig]; simp; omega
    have:=bad (nod g)
    split <;> first | exact this | (rw [if_neg d1,if_pos d2]; exact this)
   have g:isDig l[n]=true:=by rw [hdig]; simp; omega
   have hvt:=val_take l n e
   split
   ·rename_i hs
    rw [if_neg (by simp),if_neg (by simp)]
    refine hk _ ⟨n+1,e,fun c hc=>?_,by omega,?_⟩ ?_
    ·rw [List.take_succ_eq_append_getElem e,List.mem_append,List.mem_singleton] at hc
     rcases hc with hc | rfl
     ·exact hd c hc
     ·exact g
    ·have w2:w64 ((n:Int)+1)=((n+1:Nat):Int):=by rw [w64_in (by omega) (by omega)]; omega
     rw [w2]
     simp only [Prod.mk.injEq,true_and,and_true]
     omega
    ·have w2:w64 ((n:Int)+1)=((n+1:Nat):Int):=by rw [w64_in (by omega) (by omega)]; omega
     simp only [w2]; omega
   ·rename_i hs
    rw [if_neg (by simp),if_pos (by simp)]
    refine bad ?_
    unfold numL
    rw [if_neg]
    rintro ⟨_,_,h3⟩
    have:=val_pre l (n+1)
    omega
  ·rw [if_neg hm,decide_eq_false hm]
   have big:numL l=(0,false):=by
    cases hdg:isDig l[n]
    ·exact nod hdg
    ·unfold numL
     rw [if_neg]
     rintro ⟨_,_,h3⟩
     have:=val_pre l (n+1)
     have:=val_take l n e
     omega
   refine sadd _ _ (by omega) (by omega) ?_
   rw [if_pos (by omega)]
   repeat' split
   all_goals first | exact bad big | (exfalso; simp_all)
 ·have:n=l.length:=by omega
  subst this
  rw [if_neg (by omega)]
  rw [List.take_length] at *
  unfold numL at h
  by_cases hne:l=[]
  ·subst hne
   rw [if_neg (by simp)] at h
   simpa [valL] using h
  ·have hl0:0 < l.length:=List.length_pos_iff.2 hne
   rw [if_pos ⟨hne,List.all_eq_true.2 hd,hv⟩] at h
   have:decide ((l.length:Int) > 0)=true:=by simp; omega
   rw [this]; exact h
end Go.Proofs.YtdjldmolhkkipaaGreatDoor
end
section
set_option linter.unusedVariables false
set_option linter.unusedSimpArgs false
namespace Go.Proofs.YtdjldmolhkkipaaGreatDoor
open Go Go.Proofs.YtdjldmolhkkipaaGreatDoor.Eng Go.Proofs.YtdjldmolhkkipaaGreatDoor.Pl
set_option maxRecDepth 100000
set_option maxHeartbeats 2000000
theorem wi32_in {n:Int} (h0:0≤n) (h1:n≤2147483647):wi32 n=n:=by
 simp only [wi32,IntKind.wrap,IntKind.bits,IntKind.signed]
 try simp
 try omega
theorem eDigit (n:Int) {K:Int→Bool→Prop} (h1:48≤n→n≤57→K (n - 48) true) (h2:97≤n→n≤102→K (n - 87) true) (h3:65≤n→n≤70→K (n - 55) true)
  (h4:¬ (48≤n∧n≤57)→¬ (97≤n∧n≤102)→¬ (65≤n∧n≤70)→K 0 false):Xq27 n K:=by
 have w1:48≤n→n≤57→wu32 (wi32 (n - 48))=n - 48:=fun a b=>by rw [wi32_in (by omega) (by omega),wu32_in (by omega) (by omega)]
 have w2:97≤n→n≤102→wu32 (wu32 (wi32 (n - 97))+10)=n - 87:=fun a b=>by rw [wi32_in (by omega) (by omega),wu32_in (n:=n - 97) (by omega) (by omega),wu32_in (by omega) (by omega)]; omega
 have w3:65≤n→n≤70→wu32 (wu32 (wi32 (n - 65))+10)=n - 55:=fun a b=>by rw [wi32_in (by omega) (by omega),wu32_in (n:=n - 65) (by omega) (by omega),wu32_in (by omega) (by omega)]; omega
 unfold Xq27 Yq27
 simp only [decide_eq_true_eq,ge_iff_le,lt]
 repeat' (first | refine ifT (by omega) ?_ | refine ifF (by omega) ?_ | refine ifC (fun _=>?_) (fun _=>?_))
 all_goals first
  | exact h4 (by omega) (by omega) (by omega)
  |(rw [w1 (by omega) (by omega)]; exact h1 (by omega) (by omega))
  |(rw [w2 (by omega) (by omega)]; exact h2 (by omega) (by omega))
  |(rw [w3 (by omega) (by omega)]; exact h3 (by omega) (by omega))
theorem hexV_snoc (l:List UInt8) (c:UInt8):hexV (l++[c])=16 * hexV l+hexD c:=by simp [hexV]
theorem hexD_lt (c:UInt8) (h:isHex c=true):hexD c < 16:=by
 unfold isHex at h
 simp only [Bool.or_eq_true,Bool.and_eq_true,decide_eq_true_eq] at h
 unfold hexD
 split
 ·omega
 ·split <;> omega
theorem hexV_lt (l:List UInt8):∀ n,n≤l.length→(l.take n).all isHex=true→hexV (l.take n) < 16 ^ n
 | 0,_,_=>by rw [List.take_zero]; decide
 | n+1,hn,h=>by
  have e:l.take (n+1)=l.take n++[l[n]]:=List.take_succ_eq_append_getElem (by omega)
  rw [e,List.all_append,Bool.and_eq_true] at h
  have ih:=hexV_lt l n (by omega) h.1
  have hd:=hexD_lt l[n] (by simpa using h.2)
  rw [e,hexV_snoc,Nat.pow_succ]
  omega
theorem eWord (l:List UInt8) {K:Int→Bool→Prop} (h:K (if wordOk l=true then (hexV l:Int) else 0) (wordOk l)):Xq2i (S l) K:=by
 unfold Xq2i Yq2i
 rw [S_size,kS_eq _ []]
 have no:wordOk l=false→K 0 false:=fun e=>by rw [e] at h; exact h
 by_cases e0:l=[]
 ·rw [if_pos (by simp [e0])]; exact no (by rw [e0]; rfl)
 rw [if_neg (by simpa using e0)]
 have hpos:1≤l.length:=by cases l with
  | nil=>exact absurd rfl e0
  | cons=>simp
 by_cases e8:l.length > 8
 ·rw [if_pos (by simp; omega)]; exact no (by unfold wordOk; rw [decide_eq_false (by omega),Bool.false_and])
 rw [if_neg (by simp; omega)]
 refine lp_ind (fun x=>l.length - x.2.1.2) (fun x=>∃ pos,pos≤l.length∧(l.take pos).all isHex=true∧x=(((hexV (l.take pos):Int),false,(),()),(S l,pos),())) ?_ ⟨0,Nat.zero_le _,rfl,rfl⟩
 rintro x ⟨pos,hp,ha,rfl⟩ k hk
 unfold Lq2i_0
 simp only [S_size]
 by_cases e:pos < l.length
 ·rw [if_pos e]
  have hsn:l.take (pos+1)=l.take pos++[l[pos]]:=List.take_succ_eq_append_getElem e
  have bad:isHex l[pos]=false→K 0 false:=fun hb=>no (by
   unfold wordOk
   rw [List.all_eq_false.2 ⟨l[pos],List.getElem_mem e,by simp [hb]⟩,Bool.and_false])
  by_cases lo:l[pos].toNat < 128
  ·simp only [decode_lo l pos e lo]
   have step:∀ d:Int,isHex l[pos]=true→d=(hexD l[pos]:Int)→(if (!true)=true then K 0 false else lt (wu32 (wu32 ((hexV (l.take pos):Int) * 16)+d)) fun v5=>k ((v5,false,(),()),(S l,pos+1),())):=fun d hx hd=>by
    have ha':(l.take (pos+1)).all isHex=true:=by rw [hsn,List.all_append,ha]; simpa using hx
    have hv:=hexV_lt l (pos+1) e ha'
    have hv8:16 ^ (pos+1)≤16 ^ 8:=Nat.pow_le_pow_right (by decide) (by omega)
    have p8:16 ^ 8=4294967296:=by decide
    have es:hexV (l.take (pos+1))=16 * hexV (l.take pos)+hexD l[pos]:=by rw [hsn,hexV_snoc]
    rw [if_neg (by simp),hd,wu32_in (n:=(hexV (l.take pos):Int) * 16) (by omega) (by omega),wu32_in (by omega) (by omega)]
    simp only [lt]
    rw [show (hexV (l.take pos):Int) * 16+(hexD l[pos]:Int)=((hexV (l.take (pos+1)):Nat):Int) by omega]
    exact hk _ ⟨pos+1,e,ha',rfl⟩ (by dsimp only; omega)
   refine eDigit _ (fun a b=>step _ ?_ ?_) (fun a b=>step _ ?_ ?_) (fun a b=>step _ ?_ ?_) (fun a b c=>?_)
   ·unfold isHex; simp; omega
   ·unfold hexD; rw [if_pos (by omega)]; omega
   ·unfold isHex; simp; omega
   ·unfold hexD; rw [if_neg (by omega),if_pos (by omega)]; omega
   ·unfold isHex; simp; omega
   ·unfold hexD; rw [if_neg (by omega),if_neg (by omega)]; omega
   ·rw [if_pos (by simp)]; refine bad ?_
    unfold isHex; simp; omega
  ·obtain ⟨d1,_⟩:=decode_hi l pos e (by omega)
   refine eDigit _ (fun a b=>by omega) (fun a b=>by omega) (fun a b=>by omega) (fun a b c=>?_)
   rw [if_pos (by simp)]; refine bad ?_
   unfold isHex; simp; omega
 ·have:pos=l.length:=by omega
  subst this
  rw [if_neg (by omega)]
  rw [List.take_length] at ha ⊢
  have ok:wordOk l=true:=by unfold wordOk; rw [ha,decide_eq_true (by omega)]; rfl
  rw [ok,if_pos rfl] at h
  exact h
theorem eset5z (f z:Nat→Int):List.set (agL .u32 5 z) 0 (setE (List.getD (agL .u32 5 z) 0 V.bad) 0 [V.c (.int .u32 (f 0)),V.c (.int .u32 (f 1)),V.c (.int .u32 (f 2)),V.c (.int .u32 (f 3)),V.c (.int .u32 (f 4))])=agL .u32 5 f:=by kernel_rfl
theorem eHash (l:List UInt8) (hl:l.length≤1000000) {K:T5→Bool→Prop} (h:K (t5 (hashW l)) (hashOk l)):Xq2l (S l) K:=by
 unfold Xq2l Yq2l
 refine kWords l hl ?_
 rw [WV_len]
 have no:hashOk l=false→K (0,0,0,0,0,()) false:=fun e=>by
  have:t5 (hashW l)=(0,0,0,0,0,()):=by
   have z:∀ k,hashW l k=0:=fun k=>by unfold hashW; rw [e]; rfl
   simp only [t5,z]; rfl
  rw [this,e] at h; exact h
 by_cases e5:(wordsL l).length=5
 ·rw [if_neg (by simp; omega),zeros5]
  have bad:∀ n,n < 5→wordOk ((wordsL l).getD n [])=false→hashOk l=false:=fun n hn hb=>by
   unfold hashOk
   rw [List.all_eq_false.2 ⟨(wordsL l).getD n [],by rw [getD_in _ _ _ (by omega)]; exact List.getElem_mem _,by simpa using hb⟩,Bool.and_false]
  refine lp_ind (fun x=>5 - x.1.2.2.2.2.1.toNat) (fun x=>∃ (n:Nat) (o:Bool),n≤5∧(∀ i,i < n→wordOk ((wordsL l).getD i [])=true) ∧
   x=(((),o,(),(((wordsL l).length:Nat):Int),(n:Int),()),agL .u32 5 (fun i=>if i < n then (hexV ((wordsL l).getD i []):Int) else 0),(WV (wordsL l),true,false),())) ?_ ⟨0,false,by omega,by omega,rfl⟩
  rintro x ⟨n,o,hn,ha,rfl⟩ k hk
  unfold Lq2l_0
  dsimp only
  rw [Int.toNat_natCast,WV_len,e5,agL_len]
  by_cases en:n < 5
  ·rw [if_pos (decide_eq_true (by omega)),if_pos (by omega)]
   refine asWd (by omega) (eWord _ ?_)
   rw [if_pos (by omega),if_pos (by omega),if_pos (by rw [List.length_singleton]; omega)]
   simp only [lt]
   rw [show 0+n * 1=n by omega,agL_set en,agL_len]
   cases hc:wordOk ((wordsL l).getD n [])
   ·rw [if_pos (by simp),if_pos (by omega)]
    have:=eset5z (fun _=>0) (updF (fun i=>if i < n then (hexV ((wordsL l).getD i []):Int) else 0) n (if false=true then (hexV ((wordsL l).getD n []):Int) else 0))
    rw [this]
    rw [asIe 0 rfl,asIe 1 rfl,asIe 2 rfl,asIe 3 rfl,asIe 4 rfl]
    exact no (bad n en hc)
   ·rw [if_neg (by simp),if_pos rfl]
    have w1:w64 ((n:Int)+1)=((n+1:Nat):Int):=by rw [w64_in (by omega) (by omega)]; omega
    rw [w1]
    refine hk _ ⟨n+1,true,en,fun i hi=>?_,?_⟩ (by show 5 - Int.toNat ((n+1:Nat):Int) < 5 - Int.toNat (n:Int); omega)
    ·by_cases ei:i=n
     ·subst ei; exact hc
     ·exact ha i (by omega)
    ·rw [e5,agL_congr (g:=fun i=>if i < n+1 then (hexV ((wordsL l).getD i []):Int) else 0)]
     intro i hi
     unfold updF
     dsimp only
     by_cases ei:i=n
     ·subst ei; rw [if_pos rfl,if_pos (by omega)]
     ·rw [if_neg ei]
      by_cases hin:i < n
      ·rw [if_pos hin,if_pos (by omega)]
      ·rw [if_neg hin,if_neg (by omega)]
  ·have:n=5:=by omega
   subst this
   rw [if_neg (by simp)]
   have ok:hashOk l=true:=by
    unfold hashOk
    rw [e5]
    refine List.all_eq_true.2 fun w hw=>?_
    obtain ⟨i,hi,rfl⟩:=List.getElem_of_mem hw
    have:=ha i (by omega)
    rwa [getD_in _ _ _ hi] at this
   have hf:∀ i,i < 5→(fun i=>if i < 5 then (hexV ((wordsL l).getD i []):Int) else 0) i=wi (hashW l i):=fun i hi=>by
    dsimp only
    unfold hashW
    rw [if_pos hi,if_pos ok]
    have hw:=ha i hi
    unfold wordOk at hw
    rw [Bool.and_eq_true,decide_eq_true_eq] at hw
    have hv:=hexV_lt ((wordsL l).getD i []) _ (Nat.le_refl _) (by rw [List.take_length]; exact hw.2)
    rw [List.take_length] at hv
    have hv8:16 ^ ((wordsL l).getD i []).length≤16 ^ 8:=Nat.pow_le_pow_right (by decide) (by omega)
    have p8:16 ^ 8=4294967296:=by decide
    exact wi_lit _ (by omega)
   rw [ok] at h
   exact (read5 (hashW l) _ hf (K:=fun t=>K t true)).mpr h
 ·rw [if_pos (by simp; omega)]
  exact no (by unfold hashOk; rw [show ((wordsL l).length == 5)=false by simpa using e5,Bool.false_and])
theorem ePosix (n:Int) (hn:n≤9223372036854775807) {K:Int→Bool→Prop} (h:K (if n < 0 then 0 else n - 2208988800) (decide (0≤n))):Xq2a n K:=by
 unfold Xq2a Yq2a
 by_cases e:n < 0
 ·rw [if_pos (decide_eq_true e)]
  rw [if_pos e,decide_eq_false (by omega)] at h; exact h
 ·rw [if_neg (dneg e)]
  rw [if_neg e,decide_eq_true (by omega)] at h
  unfold Xq2q Yq2q
  simp only [lt]
  rw [w64_in (n:=n - 2208988800) (by omega) (by omega),decide_eq_true (show n - 2208988800 < n by omega),decide_eq_true (show (2208988800:Int) > 0 by decide),if_neg (by simp)]
  exact h
theorem eNtp (p:Int) (h0:-2208988800≤p) (h1:p≤9223372034645786000) {K:Int→Bool→Prop} (h:K (p+2208988800) true):Xq2m p K:=by
 unfold Xq2m Yq2m Xq2s Yq2s
 simp only [lt]
 rw [w64_in (n:=p+2208988800) (by omega) (by omega),decide_eq_true (show p+2208988800 > p by omega),decide_eq_true (show (2208988800:Int) > 0 by decide),if_neg (by simp),if_neg (by simp),if_neg (by simp; omega)]
 exact h
theorem as5w (w:Nat→W32) {i:Nat} (h:i < 5) {F:Prop} {K:Int→Prop} (hk:K (wi (w i))):Eng.asInt .u32 ([cw (w 0),cw (w 1),cw (w 2),cw (w 3),cw (w 4)][i]?) F K:=by
 have:[cw (w 0),cw (w 1),cw (w 2),cw (w 3),cw (w 4)][i]? = some (cw (w i)):=by
  match i,h with
  | 0,_=>rfl
  | 1,_=>rfl
  | 2,_=>rfl
  | 3,_=>rfl
  | 4,_=>rfl
 rw [this]; simpa [Eng.asInt] using hk
theorem WV_setAt (ws:List (List UInt8)) (n:Nat) (h:n < ws.length) (r:List UInt8):List.set (WV ws) n (Eng.setE (List.getD (WV ws) n Eng.V.bad) 0 [.c (.string (S r))])=WV (ws.set n r):=by
 have:List.getD (WV ws) n Eng.V.bad = .c (.string (S ws[n])):=by simp [WV,List.getD,h]
 rw [this]
 show List.set (WV ws) n (.c (.string (S r)))=_
 simp [WV,List.map_set]
theorem eNtext (w:Nat→W32) {K:ByteArray→Prop} (h:K (S (ntextL w))):Xq2e (t5 w) K:=by
 unfold Xq2e Yq2e
 refine lp_at (fun j=>(((),ByteArray.mk #[],(),(j:Int),()),t5 w,agL .u8 20 (part (dW w) j),())) 20 rfl fun n hn k hk=>?_
 unfold Lq2e_0
 simp only [decide_eq_true_eq]
 by_cases e:n=20
 ·subst e
  rw [if_neg (show ¬ ((20:Nat):Int) < 20 by omega)]
  have hp:∀ i,i < 20→part (dW w) 20 i=bi (dW w i):=fun i hi=>if_pos hi
  rw [asIe 0 rfl,asIe 1 rfl,asIe 2 rfl,asIe 3 rfl,asIe 4 rfl,asIe 5 rfl,asIe 6 rfl,asIe 7 rfl,asIe 8 rfl,asIe 9 rfl,asIe 10 rfl,asIe 11 rfl,asIe 12 rfl,asIe 13 rfl,asIe 14 rfl,asIe 15 rfl,asIe 16 rfl,asIe 17 rfl,asIe 18 rfl,asIe 19 rfl]
  rw [hp 0 (by decide),hp 1 (by decide),hp 2 (by decide),hp 3 (by decide),hp 4 (by decide),hp 5 (by decide),hp 6 (by decide),hp 7 (by decide),hp 8 (by decide),hp 9 (by decide),hp 10 (by decide),hp 11 (by decide),hp 12 (by decide),hp 13 (by decide),hp 14 (by decide),hp 15 (by decide),hp 16 (by decide),hp 17 (by decide),hp 18 (by decide),hp 19 (by decide)]
  refine sHex (dW w) ?_
  have hx:(hexN (dW w) 20).length=40:=hexN_len _ _
  refine lp_at (fun j=>((ByteArray.mk #[],S (hexN (dW w) 20),(),(5:Int),(j:Int),()),WV ((List.range 5).map fun i=>if i < j then partW w i else []),())) 5 rfl fun n hn k hk=>?_
  unfold Lq2e_1
  dsimp only
  have hlen:((List.range 5).map fun i=>if i < n then partW w i else []).length=5:=by simp
  by_cases e:n=5
  ·subst e
   rw [if_neg (by simp)]
   have hm:((List.range 5).map fun i=>if i < 5 then partW w i else [])=(List.range 5).map (partW w):=List.map_congr_left fun i hi=>if_pos (List.mem_range.1 hi)
   rw [hm]
   have em:(((List.range 5).map (partW w)).map S).map (fun b=>b.data.toList)=(List.range 5).map (partW w):=by rw [List.map_map]; exact map_id_of _ fun w _=>S_data w
   refine ⟨((List.range 5).map (partW w)).map S,by simp [WV,cs,List.map_map],by simp,?_,?_⟩
   ·rw [em]
    have pl:∀ i,(partW w i).length≤8:=fun i=>by unfold partW; rw [List.length_take]; omega
    simp [List.range,List.range.loop,Lib.join]
    have:=pl 0; have:=pl 1; have:=pl 2; have:=pl 3; have:=pl 4
    omega
   ·rw [em]; exact h
  ·have hn':n < 5:=by omega
   have hk':=hk hn'
   have w1:w64 (8 * (n:Int))=((8 * n:Nat):Int):=by rw [w64_in (by omega) (by omega)]; omega
   have w2:w64 (((8 * n:Nat):Int)+8)=((8 * n+8:Nat):Int):=by rw [w64_in (by omega) (by omega)]; omega
   have w3:w64 ((n:Int)+1)=((n+1:Nat):Int):=by rw [w64_in (by omega) (by omega)]; omega
   rw [if_pos (decide_eq_true (by omega)),w1,w2,w3]
   simp only [lt]
   rw [if_pos (by rw [S_size,hx]; omega),if_pos (by omega),Int.toNat_natCast,Int.toNat_natCast,Int.toNat_natCast,WV_len,hlen,if_pos (by omega),if_pos (by omega),S_extract]
   have e1:((hexN (dW w) 20).drop (8 * n)).take (8 * n+8 - 8 * n)=partW w n:=by unfold partW; rw [show 8 * n+8 - 8 * n=8 by omega]
   have e2:List.set (WV ((List.range 5).map fun i=>if i < n then partW w i else [])) n (setE (List.getD (WV ((List.range 5).map fun i=>if i < n then partW w i else [])) n V.bad) 0 [V.c (Value.string (S (partW w n)))])=WV ((List.range 5).map fun i=>if i < n+1 then partW w i else []):=by
    rw [WV_setAt _ _ (by rw [hlen]; exact hn')]
    refine congrArg WV ?_
    refine List.ext_getElem (by simp) fun i h1 h2=>?_
    rw [List.getElem_set,List.getElem_map,List.getElem_map,List.getElem_range]
    by_cases ei:n=i
    ·subst ei; rw [if_pos rfl,if_pos (by omega)]
    ·rw [if_neg ei]
     by_cases hin:i < n
     ·rw [if_pos hin,if_pos (by omega)]
     ·rw [if_neg hin,if_neg (by omega)]
   rw [e1,e2]
   exact hk'
 ·have hn':n < 20:=by omega
  have hk':=hk hn'
  rw [← part_next] at hk'
  have e4:w64 (Int.tdiv (n:Int) 4)=((n / 4:Nat):Int):=by
   rw [Int.tdiv_eq_ediv_of_nonneg (by omega),w64_in (by omega) (by omega)]; omega
  have e5:w64 (24 - w64 (Int.tmod (n:Int) 4 * 8))=((24 - 8 * (n % 4):Nat):Int):=by
   rw [Int.tmod_eq_emod_of_nonneg (by omega),w64_in (n:=(n:Int) % 4 * 8) (by omega) (by omega),w64_in (by omega) (by omega)]; omega
  have e1:w64 ((n:Int)+1)=((n+1:Nat):Int):=by rw [w64_in (by omega) (by omega)]; omega
  rw [e4,e5,e1]
  simp only [Int.toNat_natCast,Nat.mul_one,Nat.zero_add,lt]
  refine ifT (by omega) (ifT (by omega) (as5w w (by omega) (ifF (by omega) (ifT (by omega) (ifT (Nat.zero_lt_one) (ifT (by show n+1≤20; omega) ?_))))))
  rw [show min (24 - 8 * (n % 4)) 32=24 - 8 * (n % 4) by omega]
  have e8:=wu8_shr (w (n / 4)).toNat (24 - 8 * (n % 4)) (Nat.lt_trans (wi_lt _) (by omega))
  rw [show Int.fdiv (wi (w (n / 4))) (2 ^ (24 - 8 * (n % 4)))=Int.fdiv ((w (n / 4)).toNat:Int) (2 ^ (24 - 8 * (n % 4))) from rfl,e8]
  refine (congrArg k ?_).mp hk'
  rw [← agL_set (by omega)]
  rfl
end Go.Proofs.YtdjldmolhkkipaaGreatDoor
end
