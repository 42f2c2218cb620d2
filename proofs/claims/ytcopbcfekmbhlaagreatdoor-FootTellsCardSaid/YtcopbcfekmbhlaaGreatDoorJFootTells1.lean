/- What the functions come to in plain data, with proofs, and what that answers. -/
import Derived.Test.YtcopbcfekmbhlaaGreatDoorJFootTells0
import Derived.Test.YtcopbcfekmbhlaaGreatDoorProg
section
set_option linter.unusedVariables false
set_option linter.unusedSimpArgs false
namespace Go.Proofs.YtcopbcfekmbhlaaGreatDoor
open Go Go.Proofs.YtcopbcfekmbhlaaGreatDoor.Eng
set_option linter.unusedVariables false
set_option maxRecDepth 100000
set_option maxHeartbeats 4000000
variable {G : Gs}
/- (*epact/foot.reader).to -/
def Yfoot_reader_to (xfoot_reader_rule_1 : (ByteArray) → (Int) → (Bool) → (ByteArray) → (Int) → (Bool) → (ByteArray) → (Bool) → (Int) → (Int) → (Int) → (Int) → (Int) → (Int) → (Int) → (Int) → (Int) → (Int) → ((Bool) → (ByteArray) → (Int) → (Bool) → (ByteArray) → (Int) → (Bool) → (ByteArray) → (Bool) → (Int) → (Int) → (Int) → (Int) → (Int) → (Int) → (Int) → (Int) → (Int) → (Int) → Prop) → Prop) (a0 : ByteArray) (a1 : Int) (a2 : Bool) (a3 : ByteArray) (a4 : Int) (a5 : Bool) (a6 : ByteArray) (a7 : Bool) (a8 : Int) (a9 : Int) (a10 : Int) (a11 : Int) (a12 : Int) (a13 : Int) (a14 : Int) (a15 : Int) (a16 : Int) (a17 : Int) (K : (Bool) → (ByteArray) → (Int) → (Bool) → (ByteArray) → (Int) → (Bool) → (ByteArray) → (Bool) → (Int) → (Int) → (Int) → (Int) → (Int) → (Int) → (Int) → (Int) → (Int) → (Int) → Prop) : Prop :=
 xfoot_reader_rule_1 a0 a1 a2 a3 a4 a5 a6 a7 a8 a9 a10 a11 a12 a13 a14 a15 a16 a17 (fun r18 r19 r20 r21 r22 r23 r24 r25 r26 r27 r28 r29 r30 r31 r32 r33 r34 r35 r36 =>
 K r18 r19 r20 r21 r22 r23 r24 r25 r26 r27 r28 r29 r30 r31 r32 r33 r34 r35 r36)
def Xfoot_reader_to (a0 : ByteArray) (a1 : Int) (a2 : Bool) (a3 : ByteArray) (a4 : Int) (a5 : Bool) (a6 : ByteArray) (a7 : Bool) (a8 : Int) (a9 : Int) (a10 : Int) (a11 : Int) (a12 : Int) (a13 : Int) (a14 : Int) (a15 : Int) (a16 : Int) (a17 : Int) (K : (Bool) → (ByteArray) → (Int) → (Bool) → (ByteArray) → (Int) → (Bool) → (ByteArray) → (Bool) → (Int) → (Int) → (Int) → (Int) → (Int) → (Int) → (Int) → (Int) → (Int) → (Int) → Prop) : Prop := Yfoot_reader_to Xfoot_reader_rule_1 a0 a1 a2 a3 a4 a5 a6 a7 a8 a9 a10 a11 a12 a13 a14 a15 a16 a17 K
def Jfoot_reader_to (X : (ByteArray) → (Int) → (Bool) → (ByteArray) → (Int) → (Bool) → (ByteArray) → (Bool) → (Int) → (Int) → (Int) → (Int) → (Int) → (Int) → (Int) → (Int) → (Int) → (Int) → ((Bool) → (ByteArray) → (Int) → (Bool) → (ByteArray) → (Int) → (Bool) → (ByteArray) → (Bool) → (Int) → (Int) → (Int) → (Int) → (Int) → (Int) → (Int) → (Int) → (Int) → (Int) → Prop) → Prop) : Inst := ⟨24, (.cons (.ptr 0 0) .nil), (.cons 0 (.cells [.str, .int .i64, .bool, .str, .int .i64, .bool, .str, .bool, .int .i64, .int .i64, .int .i64, .int .i64, .int .i64, .int .i64, .int .i64, .int .i64, .int .i64, .int .i64] (.cons .str (.cons (.int .i64) (.cons .bool (.cons .str (.cons (.int .i64) (.cons .bool (.cons .str (.cons .bool (.cons (.int .i64) (.cons (.int .i64) (.cons (.int .i64) (.cons (.int .i64) (.cons (.int .i64) (.cons (.int .i64) (.cons (.int .i64) (.cons (.int .i64) (.cons (.int .i64) (.cons (.int .i64) .nil))))))))))))))))))) .nil), (.cons .bool .nil), (.cons 0 (.cells [.str, .int .i64, .bool, .str, .int .i64, .bool, .str, .bool, .int .i64, .int .i64, .int .i64, .int .i64, .int .i64, .int .i64, .int .i64, .int .i64, .int .i64, .int .i64] (.cons .str (.cons (.int .i64) (.cons .bool (.cons .str (.cons (.int .i64) (.cons .bool (.cons .str (.cons .bool (.cons (.int .i64) (.cons (.int .i64) (.cons (.int .i64) (.cons (.int .i64) (.cons (.int .i64) (.cons (.int .i64) (.cons (.int .i64) (.cons (.int .i64) (.cons (.int .i64) (.cons (.int .i64) .nil))))))))))))))))))) .nil), fun x y K => X y.1.1 y.1.2.1 y.1.2.2.1 y.1.2.2.2.1 y.1.2.2.2.2.1 y.1.2.2.2.2.2.1 y.1.2.2.2.2.2.2.1 y.1.2.2.2.2.2.2.2.1 y.1.2.2.2.2.2.2.2.2.1 y.1.2.2.2.2.2.2.2.2.2.1 y.1.2.2.2.2.2.2.2.2.2.2.1 y.1.2.2.2.2.2.2.2.2.2.2.2.1 y.1.2.2.2.2.2.2.2.2.2.2.2.2.1 y.1.2.2.2.2.2.2.2.2.2.2.2.2.2.1 y.1.2.2.2.2.2.2.2.2.2.2.2.2.2.2.1 y.1.2.2.2.2.2.2.2.2.2.2.2.2.2.2.2.1 y.1.2.2.2.2.2.2.2.2.2.2.2.2.2.2.2.2.1 y.1.2.2.2.2.2.2.2.2.2.2.2.2.2.2.2.2.2.1 (fun u0 u1 u2 u3 u4 u5 u6 u7 u8 u9 u10 u11 u12 u13 u14 u15 u16 u17 u18 => K (u0, ()) ((u1, (u2, (u3, (u4, (u5, (u6, (u7, (u8, (u9, (u10, (u11, (u12, (u13, (u14, (u15, (u16, (u17, (u18, ())))))))))))))))))), ()))⟩
def Ifoot_reader_to : Inst := Jfoot_reader_to Xfoot_reader_to
theorem Efoot_reader_to (xfoot_reader_rule_1 : (ByteArray) → (Int) → (Bool) → (ByteArray) → (Int) → (Bool) → (ByteArray) → (Bool) → (Int) → (Int) → (Int) → (Int) → (Int) → (Int) → (Int) → (Int) → (Int) → (Int) → ((Bool) → (ByteArray) → (Int) → (Bool) → (ByteArray) → (Int) → (Bool) → (ByteArray) → (Bool) → (Int) → (Int) → (Int) → (Int) → (Int) → (Int) → (Int) → (Int) → (Int) → (Int) → Prop) → Prop) (x : PL.T (.cons (.ptr 0 0) .nil)) (y : PH.T (.cons 0 (.cells [.str, .int .i64, .bool, .str, .int .i64, .bool, .str, .bool, .int .i64, .int .i64, .int .i64, .int .i64, .int .i64, .int .i64, .int .i64, .int .i64, .int .i64, .int .i64] (.cons .str (.cons (.int .i64) (.cons .bool (.cons .str (.cons (.int .i64) (.cons .bool (.cons .str (.cons .bool (.cons (.int .i64) (.cons (.int .i64) (.cons (.int .i64) (.cons (.int .i64) (.cons (.int .i64) (.cons (.int .i64) (.cons (.int .i64) (.cons (.int .i64) (.cons (.int .i64) (.cons (.int .i64) .nil))))))))))))))))))) .nil)) (K : PL.T (.cons .bool .nil) → PH.T (.cons 0 (.cells [.str, .int .i64, .bool, .str, .int .i64, .bool, .str, .bool, .int .i64, .int .i64, .int .i64, .int .i64, .int .i64, .int .i64, .int .i64, .int .i64, .int .i64, .int .i64] (.cons .str (.cons (.int .i64) (.cons .bool (.cons .str (.cons (.int .i64) (.cons .bool (.cons .str (.cons .bool (.cons (.int .i64) (.cons (.int .i64) (.cons (.int .i64) (.cons (.int .i64) (.cons (.int .i64) (.cons (.int .i64) (.cons (.int .i64) (.cons (.int .i64) (.cons (.int .i64) (.cons (.int .i64) .nil))))))))))))))))))) .nil) → Prop) : Yfoot_reader_to xfoot_reader_rule_1 y.1.1 y.1.2.1 y.1.2.2.1 y.1.2.2.2.1 y.1.2.2.2.2.1 y.1.2.2.2.2.2.1 y.1.2.2.2.2.2.2.1 y.1.2.2.2.2.2.2.2.1 y.1.2.2.2.2.2.2.2.2.1 y.1.2.2.2.2.2.2.2.2.2.1 y.1.2.2.2.2.2.2.2.2.2.2.1 y.1.2.2.2.2.2.2.2.2.2.2.2.1 y.1.2.2.2.2.2.2.2.2.2.2.2.2.1 y.1.2.2.2.2.2.2.2.2.2.2.2.2.2.1 y.1.2.2.2.2.2.2.2.2.2.2.2.2.2.2.1 y.1.2.2.2.2.2.2.2.2.2.2.2.2.2.2.2.1 y.1.2.2.2.2.2.2.2.2.2.2.2.2.2.2.2.2.1 y.1.2.2.2.2.2.2.2.2.2.2.2.2.2.2.2.2.2.1 (fun u0 u1 u2 u3 u4 u5 u6 u7 u8 u9 u10 u11 u12 u13 u14 u15 u16 u17 u18 => K (u0, ()) ((u1, (u2, (u3, (u4, (u5, (u6, (u7, (u8, (u9, (u10, (u11, (u12, (u13, (u14, (u15, (u16, (u17, (u18, ())))))))))))))))))), ())) = bodyC (envP Tryz.prog 9 gives ⟨tabC [Jfoot_reader_rule_1 xfoot_reader_rule_1], tabL []⟩) Tryz.f24 (Tryz.f24.body.getD .skip) (PL.enc (.cons (.ptr 0 0) .nil) x) (PH.enc (.cons 0 (.cells [.str, .int .i64, .bool, .str, .int .i64, .bool, .str, .bool, .int .i64, .int .i64, .int .i64, .int .i64, .int .i64, .int .i64, .int .i64, .int .i64, .int .i64, .int .i64] (.cons .str (.cons (.int .i64) (.cons .bool (.cons .str (.cons (.int .i64) (.cons .bool (.cons .str (.cons .bool (.cons (.int .i64) (.cons (.int .i64) (.cons (.int .i64) (.cons (.int .i64) (.cons (.int .i64) (.cons (.int .i64) (.cons (.int .i64) (.cons (.int .i64) (.cons (.int .i64) (.cons (.int .i64) .nil))))))))))))))))))) .nil) y) (resK (.cons .bool .nil) (.cons 0 (.cells [.str, .int .i64, .bool, .str, .int .i64, .bool, .str, .bool, .int .i64, .int .i64, .int .i64, .int .i64, .int .i64, .int .i64, .int .i64, .int .i64, .int .i64, .int .i64] (.cons .str (.cons (.int .i64) (.cons .bool (.cons .str (.cons (.int .i64) (.cons .bool (.cons .str (.cons .bool (.cons (.int .i64) (.cons (.int .i64) (.cons (.int .i64) (.cons (.int .i64) (.cons (.int .i64) (.cons (.int .i64) (.cons (.int .i64) (.cons (.int .i64) (.cons (.int .i64) (.cons (.int .i64) .nil))))))))))))))))))) .nil) K) := by kernel_rfl
theorem Ifoot_reader_to_ok : InstOk Tryz.prog G.1 Ifoot_reader_to := inst_ok (gives := gives) (is := [Ifoot_reader_rule_1]) [] (okCons Ifoot_reader_rule_1_ok okNil) 9 follows Tryz.func24 (by kernel_rfl) (fun x => by kernel_rfl) (fun x y K => Efoot_reader_to Xfoot_reader_rule_1 x y K)

/- epact/foot.Parse -/
def Lfoot_Parse_0p : Lp := ⟨1835036, [], .nil, .nil, 12⟩
def Yfoot_Parse (xfoot_reader_usual : (ByteArray) → (Int) → (Bool) → (ByteArray) → (Int) → (Bool) → (ByteArray) → (Bool) → (Int) → (Int) → (Int) → (Int) → (Int) → (Int) → (Int) → (Int) → (Int) → (Int) → ((Bool) → (ByteArray) → (Int) → (Bool) → (ByteArray) → (Int) → (Bool) → (ByteArray) → (Bool) → (Int) → (Int) → (Int) → (Int) → (Int) → (Int) → (Int) → (Int) → (Int) → (Int) → Prop) → Prop) (xfoot_Right : (Int × Bool × ByteArray × Int × Bool × ByteArray × Bool × Int × Int × Int × Int × Int × Int × Int × Int × Int × Int × Unit) → ((Bool) → Prop) → Prop) (xfoot_reader_summer : (ByteArray) → (Int) → (Bool) → (ByteArray) → (Int) → (Bool) → (ByteArray) → (Bool) → (Int) → (Int) → (Int) → (Int) → (Int) → (Int) → (Int) → (Int) → (Int) → (Int) → ((Bool) → (ByteArray) → (Int) → (Bool) → (ByteArray) → (Int) → (Bool) → (ByteArray) → (Bool) → (Int) → (Int) → (Int) → (Int) → (Int) → (Int) → (Int) → (Int) → (Int) → (Int) → Prop) → Prop) (xfoot_reader_from : (ByteArray) → (Int) → (Bool) → (ByteArray) → (Int) → (Bool) → (ByteArray) → (Bool) → (Int) → (Int) → (Int) → (Int) → (Int) → (Int) → (Int) → (Int) → (Int) → (Int) → ((Bool) → (ByteArray) → (Int) → (Bool) → (ByteArray) → (Int) → (Bool) → (ByteArray) → (Bool) → (Int) → (Int) → (Int) → (Int) → (Int) → (Int) → (Int) → (Int) → (Int) → (Int) → Prop) → Prop) (xfoot_reader_to : (ByteArray) → (Int) → (Bool) → (ByteArray) → (Int) → (Bool) → (ByteArray) → (Bool) → (Int) → (Int) → (Int) → (Int) → (Int) → (Int) → (Int) → (Int) → (Int) → (Int) → ((Bool) → (ByteArray) → (Int) → (Bool) → (ByteArray) → (Int) → (Bool) → (ByteArray) → (Bool) → (Int) → (Int) → (Int) → (Int) → (Int) → (Int) → (Int) → (Int) → (Int) → (Int) → Prop) → Prop) (a0 : ByteArray) (K : (Int × Bool × ByteArray × Int × Bool × ByteArray × Bool × Int × Int × Int × Int × Int × Int × Int × Int × Int × Int × Unit) → (Bool) → Prop) : Prop :=
 xfoot_reader_usual a0 (0 : Int) false (ByteArray.mk #[]) (0 : Int) false (ByteArray.mk #[]) false (0 : Int) (0 : Int) (0 : Int) (0 : Int) (0 : Int) (0 : Int) (0 : Int) (0 : Int) (0 : Int) (0 : Int) (fun r1 r2 r3 r4 r5 r6 r7 r8 r9 r10 r11 r12 r13 r14 r15 r16 r17 r18 r19 =>
 (if (!r1) = true then
 K ((0 : Int), false, ByteArray.mk #[], (0 : Int), false, ByteArray.mk #[], false, (0 : Int), (0 : Int), (0 : Int), (0 : Int), (0 : Int), (0 : Int), (0 : Int), (0 : Int), (0 : Int), (0 : Int), ()) false
 else
 (if (ByteArray.toList r2 == ByteArray.toList (ByteArray.mk #[])) = true then
 (if (!ByteArray.toList r2 == ByteArray.toList (ByteArray.mk #[])) = true then
 K ((0 : Int), false, ByteArray.mk #[], (0 : Int), false, ByteArray.mk #[], false, (0 : Int), (0 : Int), (0 : Int), (0 : Int), (0 : Int), (0 : Int), (0 : Int), (0 : Int), (0 : Int), (0 : Int), ()) false
 else
 xfoot_Right (r3, r4, r5, r6, r7, r8, r9, r10, r11, r12, r13, r14, r15, r16, r17, r18, r19, ()) (fun r20 =>
 (if (!r20) = true then
 K ((0 : Int), false, ByteArray.mk #[], (0 : Int), false, ByteArray.mk #[], false, (0 : Int), (0 : Int), (0 : Int), (0 : Int), (0 : Int), (0 : Int), (0 : Int), (0 : Int), (0 : Int), (0 : Int), ()) false
 else
 K (r3, r4, r5, r6, r7, r8, r9, r10, r11, r12, r13, r14, r15, r16, r17, r18, r19, ()) true)))
 else
 xfoot_reader_summer r2 r3 r4 r5 r6 r7 r8 r9 r10 r11 r12 r13 r14 r15 r16 r17 r18 r19 (fun r21 r22 r23 r24 r25 r26 r27 r28 r29 r30 r31 r32 r33 r34 r35 r36 r37 r38 r39 =>
 (if (!r21) = true then
 K ((0 : Int), false, ByteArray.mk #[], (0 : Int), false, ByteArray.mk #[], false, (0 : Int), (0 : Int), (0 : Int), (0 : Int), (0 : Int), (0 : Int), (0 : Int), (0 : Int), (0 : Int), (0 : Int), ()) false
 else
 xfoot_reader_from r22 r23 r24 r25 r26 r27 r28 r29 r30 r31 r32 r33 r34 r35 r36 r37 r38 r39 (fun r40 r41 r42 r43 r44 r45 r46 r47 r48 r49 r50 r51 r52 r53 r54 r55 r56 r57 r58 =>
 (if (!r40) = true then
 K ((0 : Int), false, ByteArray.mk #[], (0 : Int), false, ByteArray.mk #[], false, (0 : Int), (0 : Int), (0 : Int), (0 : Int), (0 : Int), (0 : Int), (0 : Int), (0 : Int), (0 : Int), (0 : Int), ()) false
 else
 xfoot_reader_to r41 r42 r43 r44 r45 r46 r47 r48 r49 r50 r51 r52 r53 r54 r55 r56 r57 r58 (fun r59 r60 r61 r62 r63 r64 r65 r66 r67 r68 r69 r70 r71 r72 r73 r74 r75 r76 r77 =>
 (if (!r59) = true then
 K ((0 : Int), false, ByteArray.mk #[], (0 : Int), false, ByteArray.mk #[], false, (0 : Int), (0 : Int), (0 : Int), (0 : Int), (0 : Int), (0 : Int), (0 : Int), (0 : Int), (0 : Int), (0 : Int), ()) false
 else
 (if (!ByteArray.toList r60 == ByteArray.toList (ByteArray.mk #[])) = true then
 K ((0 : Int), false, ByteArray.mk #[], (0 : Int), false, ByteArray.mk #[], false, (0 : Int), (0 : Int), (0 : Int), (0 : Int), (0 : Int), (0 : Int), (0 : Int), (0 : Int), (0 : Int), (0 : Int), ()) false
 else
 xfoot_Right (r61, r62, r63, r64, r65, r66, r67, r68, r69, r70, r71, r72, r73, r74, r75, r76, r77, ()) (fun r78 =>
 (if (!r78) = true then
 K ((0 : Int), false, ByteArray.mk #[], (0 : Int), false, ByteArray.mk #[], false, (0 : Int), (0 : Int), (0 : Int), (0 : Int), (0 : Int), (0 : Int), (0 : Int), (0 : Int), (0 : Int), (0 : Int), ()) false
 else
 K (r61, r62, r63, r64, r65, r66, r67, r68, r69, r70, r71, r72, r73, r74, r75, r76, r77, ()) true))))))))))))
def Xfoot_Parse (a0 : ByteArray) (K : (Int × Bool × ByteArray × Int × Bool × ByteArray × Bool × Int × Int × Int × Int × Int × Int × Int × Int × Int × Int × Unit) → (Bool) → Prop) : Prop := Yfoot_Parse Xfoot_reader_usual Xfoot_Right Xfoot_reader_summer Xfoot_reader_from Xfoot_reader_to a0 K
def Jfoot_Parse (X : (ByteArray) → ((Int × Bool × ByteArray × Int × Bool × ByteArray × Bool × Int × Int × Int × Int × Int × Int × Int × Int × Int × Int × Unit) → (Bool) → Prop) → Prop) : Inst := ⟨7, (.cons .str .nil), .nil, (.cons (.agg (.cons (.int .i64) (.cons .bool (.cons .str (.cons (.int .i64) (.cons .bool (.cons .str (.cons .bool (.cons (.int .i64) (.cons (.int .i64) (.cons (.int .i64) (.cons (.int .i64) (.cons (.int .i64) (.cons (.int .i64) (.cons (.int .i64) (.cons (.int .i64) (.cons (.int .i64) (.cons (.int .i64) .nil)))))))))))))))))) (.cons .bool .nil)), .nil, fun x y K => X x.1 (fun u0 u1 => K (u0, (u1, ())) ())⟩
def Ifoot_Parse : Inst := Jfoot_Parse Xfoot_Parse
theorem Efoot_Parse (xfoot_reader_usual : (ByteArray) → (Int) → (Bool) → (ByteArray) → (Int) → (Bool) → (ByteArray) → (Bool) → (Int) → (Int) → (Int) → (Int) → (Int) → (Int) → (Int) → (Int) → (Int) → (Int) → ((Bool) → (ByteArray) → (Int) → (Bool) → (ByteArray) → (Int) → (Bool) → (ByteArray) → (Bool) → (Int) → (Int) → (Int) → (Int) → (Int) → (Int) → (Int) → (Int) → (Int) → (Int) → Prop) → Prop) (xfoot_Right : (Int × Bool × ByteArray × Int × Bool × ByteArray × Bool × Int × Int × Int × Int × Int × Int × Int × Int × Int × Int × Unit) → ((Bool) → Prop) → Prop) (xfoot_reader_summer : (ByteArray) → (Int) → (Bool) → (ByteArray) → (Int) → (Bool) → (ByteArray) → (Bool) → (Int) → (Int) → (Int) → (Int) → (Int) → (Int) → (Int) → (Int) → (Int) → (Int) → ((Bool) → (ByteArray) → (Int) → (Bool) → (ByteArray) → (Int) → (Bool) → (ByteArray) → (Bool) → (Int) → (Int) → (Int) → (Int) → (Int) → (Int) → (Int) → (Int) → (Int) → (Int) → Prop) → Prop) (xfoot_reader_from : (ByteArray) → (Int) → (Bool) → (ByteArray) → (Int) → (Bool) → (ByteArray) → (Bool) → (Int) → (Int) → (Int) → (Int) → (Int) → (Int) → (Int) → (Int) → (Int) → (Int) → ((Bool) → (ByteArray) → (Int) → (Bool) → (ByteArray) → (Int) → (Bool) → (ByteArray) → (Bool) → (Int) → (Int) → (Int) → (Int) → (Int) → (Int) → (Int) → (Int) → (Int) → (Int) → Prop) → Prop) (xfoot_reader_to : (ByteArray) → (Int) → (Bool) → (ByteArray) → (Int) → (Bool) → (ByteArray) → (Bool) → (Int) → (Int) → (Int) → (Int) → (Int) → (Int) → (Int) → (Int) → (Int) → (Int) → ((Bool) → (ByteArray) → (Int) → (Bool) → (ByteArray) → (Int) → (Bool) → (ByteArray) → (Bool) → (Int) → (Int) → (Int) → (Int) → (Int) → (Int) → (Int) → (Int) → (Int) → (Int) → Prop) → Prop) (x : PL.T (.cons .str .nil)) (y : PH.T .nil) (K : PL.T (.cons (.agg (.cons (.int .i64) (.cons .bool (.cons .str (.cons (.int .i64) (.cons .bool (.cons .str (.cons .bool (.cons (.int .i64) (.cons (.int .i64) (.cons (.int .i64) (.cons (.int .i64) (.cons (.int .i64) (.cons (.int .i64) (.cons (.int .i64) (.cons (.int .i64) (.cons (.int .i64) (.cons (.int .i64) .nil)))))))))))))))))) (.cons .bool .nil)) → PH.T .nil → Prop) : Yfoot_Parse xfoot_reader_usual xfoot_Right xfoot_reader_summer xfoot_reader_from xfoot_reader_to x.1 (fun u0 u1 => K (u0, (u1, ())) ()) = bodyC (envP Tryz.prog 57 gives ⟨tabC [Jfoot_reader_usual xfoot_reader_usual, Jfoot_Right xfoot_Right, Jfoot_reader_summer xfoot_reader_summer, Jfoot_reader_from xfoot_reader_from, Jfoot_reader_to xfoot_reader_to], tabL [Lfoot_Parse_0p]⟩) Tryz.f7 (Tryz.f7.body.getD .skip) (PL.enc (.cons .str .nil) x) (PH.enc .nil y) (resK (.cons (.agg (.cons (.int .i64) (.cons .bool (.cons .str (.cons (.int .i64) (.cons .bool (.cons .str (.cons .bool (.cons (.int .i64) (.cons (.int .i64) (.cons (.int .i64) (.cons (.int .i64) (.cons (.int .i64) (.cons (.int .i64) (.cons (.int .i64) (.cons (.int .i64) (.cons (.int .i64) (.cons (.int .i64) .nil)))))))))))))))))) (.cons .bool .nil)) .nil K) := by kernel_rfl
theorem Ifoot_Parse_ok : InstOk Tryz.prog G.1 Ifoot_Parse := inst_ok (gives := gives) (is := [Ifoot_reader_usual, Ifoot_Right, Ifoot_reader_summer, Ifoot_reader_from, Ifoot_reader_to]) [Lfoot_Parse_0p] (okCons Ifoot_reader_usual_ok (okCons Ifoot_Right_ok (okCons Ifoot_reader_summer_ok (okCons Ifoot_reader_from_ok (okCons Ifoot_reader_to_ok okNil))))) 57 follows Tryz.func7 (by kernel_rfl) (fun x => by kernel_rfl) (fun x y K => Efoot_Parse Xfoot_reader_usual Xfoot_Right Xfoot_reader_summer Xfoot_reader_from Xfoot_reader_to x y K)

/- epact/rule.pair -/
def Yrule_pair (xitoa : Int → (ByteArray → Prop) → Prop) (a0 : Int) (K : (ByteArray) → Prop) : Prop :=
 xitoa (w64 (Int.tdiv a0 (10 : Int))) (fun r1 =>
 (if (↑((1 : Nat) + ByteArray.size r1) : Int) > (9223372036854775807 : Int) then
 False
 else
 xitoa (Int.tmod a0 (10 : Int)) (fun r2 =>
 (if (↑(ByteArray.size (ByteArray.mk #[(58 : UInt8)] ++ r1) + ByteArray.size r2) : Int) > (9223372036854775807 : Int) then
 False
 else
 (lt (ByteArray.mk #[(58 : UInt8)] ++ r1 ++ r2) fun v3 =>
 K v3)))))
def Xrule_pair (a0 : Int) (K : (ByteArray) → Prop) : Prop := Yrule_pair Xitoa a0 K
def Jrule_pair (X : (Int) → ((ByteArray) → Prop) → Prop) : Inst := ⟨42, (.cons (.int .i64) .nil), .nil, (.cons .str .nil), .nil, fun x y K => X x.1 (fun u0 => K (u0, ()) ())⟩
def Irule_pair : Inst := Jrule_pair Xrule_pair
theorem Erule_pair (xitoa : Int → (ByteArray → Prop) → Prop) (x : PL.T (.cons (.int .i64) .nil)) (y : PH.T .nil) (K : PL.T (.cons .str .nil) → PH.T .nil → Prop) : Yrule_pair xitoa x.1 (fun u0 => K (u0, ()) ()) = bodyC (envP Tryz.prog 11 gives ⟨tabC [Jitoa xitoa], tabL []⟩) Tryz.f42 (Tryz.f42.body.getD .skip) (PL.enc (.cons (.int .i64) .nil) x) (PH.enc .nil y) (resK (.cons .str .nil) .nil K) := by kernel_rfl
theorem Irule_pair_ok : InstOk Tryz.prog G.1 Irule_pair := inst_ok (gives := gives) (is := [Iitoa]) [] (okCons Iitoa_ok okNil) 11 follows Tryz.func42 (by kernel_rfl) (fun x => by kernel_rfl) (fun x y K => Erule_pair Xitoa x y K)

/- epact/rule.Clock -/
def Yrule_Clock (xrule_within : (Int) → (Int) → (Int) → ((Bool) → Prop) → Prop) (xitoa : Int → (ByteArray → Prop) → Prop) (xrule_pair : (Int) → ((ByteArray) → Prop) → Prop) (a0 : Int) (K : (ByteArray) → (Bool) → Prop) : Prop :=
 xrule_within a0 (-604799 : Int) (604799 : Int) (fun r1 =>
 (if (!r1) = true then
 K (ByteArray.mk #[]) false
 else
 (if decide (a0 < (0 : Int)) = true then
 (lt (w64 (Int.tdiv (w64 ((0 : Int) - a0)) (3600 : Int))) fun v2 =>
 xitoa v2 (fun r3 =>
 (if (↑((1 : Nat) + ByteArray.size r3) : Int) > (9223372036854775807 : Int) then
 False
 else
 (lt (w64 (Int.tdiv (w64 ((0 : Int) - a0)) (60 : Int))) fun v4 =>
 (if (Int.tmod (w64 ((0 : Int) - a0)) (60 : Int) != (0 : Int)) = true then
 xrule_pair (Int.tmod v4 (60 : Int)) (fun r5 =>
 xrule_pair (Int.tmod (w64 ((0 : Int) - a0)) (60 : Int)) (fun r6 =>
 (if (↑(ByteArray.size r5 + ByteArray.size r6) : Int) > (9223372036854775807 : Int) then
 False
 else
 (if (↑(ByteArray.size (ByteArray.mk #[(45 : UInt8)] ++ r3) + ByteArray.size (r5 ++ r6)) : Int) > (9223372036854775807 : Int) then
 False
 else
 (lt (ByteArray.mk #[(45 : UInt8)] ++ r3 ++ (r5 ++ r6)) fun v7 =>
 K v7 true)))))
 else
 (if (Int.tmod v4 (60 : Int) != (0 : Int)) = true then
 xrule_pair (Int.tmod v4 (60 : Int)) (fun r8 =>
 (if (↑(ByteArray.size (ByteArray.mk #[(45 : UInt8)] ++ r3) + ByteArray.size r8) : Int) > (9223372036854775807 : Int) then
 False
 else
 (lt (ByteArray.mk #[(45 : UInt8)] ++ r3 ++ r8) fun v9 =>
 K v9 true)))
 else
 K (ByteArray.mk #[(45 : UInt8)] ++ r3) true))))))
 else
 xitoa (w64 (Int.tdiv a0 (3600 : Int))) (fun r10 =>
 (if (↑((0 : Nat) + ByteArray.size r10) : Int) > (9223372036854775807 : Int) then
 False
 else
 (if (Int.tmod a0 (60 : Int) != (0 : Int)) = true then
 xrule_pair (Int.tmod (w64 (Int.tdiv a0 (60 : Int))) (60 : Int)) (fun r11 =>
 xrule_pair (Int.tmod a0 (60 : Int)) (fun r12 =>
 (if (↑(ByteArray.size r11 + ByteArray.size r12) : Int) > (9223372036854775807 : Int) then
 False
 else
 (if (↑(ByteArray.size (ByteArray.mk #[] ++ r10) + ByteArray.size (r11 ++ r12)) : Int) > (9223372036854775807 : Int) then
 False
 else
 (lt (ByteArray.mk #[] ++ r10 ++ (r11 ++ r12)) fun v13 =>
 K v13 true)))))
 else
 (if (Int.tmod (w64 (Int.tdiv a0 (60 : Int))) (60 : Int) != (0 : Int)) = true then
 xrule_pair (Int.tmod (w64 (Int.tdiv a0 (60 : Int))) (60 : Int)) (fun r14 =>
 (if (↑(ByteArray.size (ByteArray.mk #[] ++ r10) + ByteArray.size r14) : Int) > (9223372036854775807 : Int) then
 False
 else
 K (ByteArray.mk #[] ++ r10 ++ r14) true))
 else
 K (ByteArray.mk #[] ++ r10) true)))))))
def Xrule_Clock (a0 : Int) (K : (ByteArray) → (Bool) → Prop) : Prop := Yrule_Clock Xrule_within Xitoa Xrule_pair a0 K
def Jrule_Clock (X : (Int) → ((ByteArray) → (Bool) → Prop) → Prop) : Inst := ⟨15, (.cons (.int .i64) .nil), .nil, (.cons .str (.cons .bool .nil)), .nil, fun x y K => X x.1 (fun u0 u1 => K (u0, (u1, ())) ())⟩
def Irule_Clock : Inst := Jrule_Clock Xrule_Clock
theorem Erule_Clock (xrule_within : (Int) → (Int) → (Int) → ((Bool) → Prop) → Prop) (xitoa : Int → (ByteArray → Prop) → Prop) (xrule_pair : (Int) → ((ByteArray) → Prop) → Prop) (x : PL.T (.cons (.int .i64) .nil)) (y : PH.T .nil) (K : PL.T (.cons .str (.cons .bool .nil)) → PH.T .nil → Prop) : Yrule_Clock xrule_within xitoa xrule_pair x.1 (fun u0 u1 => K (u0, (u1, ())) ()) = bodyC (envP Tryz.prog 39 gives ⟨tabC [Jrule_within xrule_within, Jitoa xitoa, Jrule_pair xrule_pair], tabL []⟩) Tryz.f15 (Tryz.f15.body.getD .skip) (PL.enc (.cons (.int .i64) .nil) x) (PH.enc .nil y) (resK (.cons .str (.cons .bool .nil)) .nil K) := by kernel_rfl
theorem Irule_Clock_ok : InstOk Tryz.prog G.1 Irule_Clock := inst_ok (gives := gives) (is := [Irule_within, Iitoa, Irule_pair]) [] (okCons Irule_within_ok (okCons Iitoa_ok (okCons Irule_pair_ok okNil))) 39 follows Tryz.func15 (by kernel_rfl) (fun x => by kernel_rfl) (fun x y K => Erule_Clock Xrule_within Xitoa Xrule_pair x y K)

/- epact/foot.named$1 -/
def Yfoot_named_1 (xfoot_plain : (Int) → ((Bool) → Prop) → Prop) (a0 : Int) (K : (Bool) → Prop) : Prop :=
 xfoot_plain a0 (fun r1 =>
 K !r1)
def Xfoot_named_1 (a0 : Int) (K : (Bool) → Prop) : Prop := Yfoot_named_1 Xfoot_plain a0 K
def Jfoot_named_1 (X : (Int) → ((Bool) → Prop) → Prop) : Inst := ⟨43, (.cons (.int .i32) .nil), .nil, (.cons .bool .nil), .nil, fun x y K => X x.1 (fun u0 => K (u0, ()) ())⟩
def Ifoot_named_1 : Inst := Jfoot_named_1 Xfoot_named_1
theorem Efoot_named_1 (xfoot_plain : (Int) → ((Bool) → Prop) → Prop) (x : PL.T (.cons (.int .i32) .nil)) (y : PH.T .nil) (K : PL.T (.cons .bool .nil) → PH.T .nil → Prop) : Yfoot_named_1 xfoot_plain x.1 (fun u0 => K (u0, ()) ()) = bodyC (envP Tryz.prog 6 gives ⟨tabC [Jfoot_plain xfoot_plain], tabL []⟩) Tryz.f43 (Tryz.f43.body.getD .skip) (PL.enc (.cons (.int .i32) .nil) x) (PH.enc .nil y) (resK (.cons .bool .nil) .nil K) := by kernel_rfl
theorem Ifoot_named_1_ok : InstOk Tryz.prog G.1 Ifoot_named_1 := inst_ok (gives := gives) (is := [Ifoot_plain]) [] (okCons Ifoot_plain_ok okNil) 6 follows Tryz.func43 (by kernel_rfl) (fun x => by kernel_rfl) (fun x y K => Efoot_named_1 Xfoot_plain x y K)

/- strings.indexFunc -/
def Lstrings_indexFunc_2_0 (xfoot_named_1 : (Int) → ((Bool) → Prop) → Prop) (K : (Int) → Prop) : (((Unit × Unit) × Bool × Int × Unit × Unit) × ((ByteArray × Nat) × Unit) → Prop) → ((Unit × Unit) × Bool × Int × Unit × Unit) × ((ByteArray × Nat) × Unit) → Prop := fun k2 x3 =>
 (if x3.2.1.2 < ByteArray.size x3.2.1.1 then
 xfoot_named_1 (↑(Prod.fst (Go.Utf8.decode x3.2.1.1 x3.2.1.2)) : Int) (fun r4 =>
 (if (r4 == x3.1.2.1) = true then
 K (↑(x3.2.1.2) : Int)
 else
 k2 ((((), ()), x3.1.2.1, x3.1.2.2.1, (), ()), (x3.2.1.1, x3.2.1.2 + Prod.snd (Go.Utf8.decode x3.2.1.1 x3.2.1.2)), ())))
 else
 K (-1 : Int))
def Lstrings_indexFunc_2_0p : Lp := ⟨1094, [.trim 1094], (.cons 1 (.fn (.func 43) .nil .nil) (.cons 2 .bool (.cons 6 (.int .i64) (.cons 10 (.it 224) .nil)))), (.cons 224 .iter .nil), 0⟩
def Ystrings_indexFunc_2 (xfoot_named_1 : (Int) → ((Bool) → Prop) → Prop) (a0 : ByteArray) (a1 : Bool) (K : (Int) → Prop) : Prop :=
 lp (Lstrings_indexFunc_2_0 xfoot_named_1 K) ((((), ()), a1, (0 : Int), (), ()), (a0, (0 : Nat)), ())
def Xstrings_indexFunc_2 (a0 : ByteArray) (a1 : Bool) (K : (Int) → Prop) : Prop := Ystrings_indexFunc_2 Xfoot_named_1 a0 a1 K
def Jstrings_indexFunc_2 (X : (ByteArray) → (Bool) → ((Int) → Prop) → Prop) : Inst := ⟨86, (.cons .str (.cons (.fn (.func 43) .nil .nil) (.cons .bool .nil))), .nil, (.cons (.int .i64) .nil), .nil, fun x y K => X x.1 x.2.2.1 (fun u0 => K (u0, ()) ())⟩
def Istrings_indexFunc_2 : Inst := Jstrings_indexFunc_2 Xstrings_indexFunc_2
theorem Estrings_indexFunc_2 (xfoot_named_1 : (Int) → ((Bool) → Prop) → Prop) (x : PL.T (.cons .str (.cons (.fn (.func 43) .nil .nil) (.cons .bool .nil)))) (y : PH.T .nil) (K : PL.T (.cons (.int .i64) .nil) → PH.T .nil → Prop) : Ystrings_indexFunc_2 xfoot_named_1 x.1 x.2.2.1 (fun u0 => K (u0, ()) ()) = bodyC (envP Tryz.prog 21 gives ⟨tabC [Jfoot_named_1 xfoot_named_1], tabL [Lstrings_indexFunc_2_0p]⟩) Tryz.f86 (Tryz.f86.body.getD .skip) (PL.enc (.cons .str (.cons (.fn (.func 43) .nil .nil) (.cons .bool .nil))) x) (PH.enc .nil y) (resK (.cons (.int .i64) .nil) .nil K) := by kernel_rfl
theorem Istrings_indexFunc_2_ok : InstOk Tryz.prog G.1 Istrings_indexFunc_2 := inst_ok (gives := gives) (is := [Ifoot_named_1]) [Lstrings_indexFunc_2_0p] (okCons Ifoot_named_1_ok okNil) 21 follows Tryz.func86 (by kernel_rfl) (fun x => by kernel_rfl) (fun x y K => Estrings_indexFunc_2 Xfoot_named_1 x y K)

/- strings.IndexFunc -/
def Ystrings_IndexFunc_2 (xstrings_indexFunc_2 : (ByteArray) → (Bool) → ((Int) → Prop) → Prop) (a0 : ByteArray) (K : (Int) → Prop) : Prop :=
 xstrings_indexFunc_2 a0 true (fun r1 =>
 K r1)
def Xstrings_IndexFunc_2 (a0 : ByteArray) (K : (Int) → Prop) : Prop := Ystrings_IndexFunc_2 Xstrings_indexFunc_2 a0 K
def Jstrings_IndexFunc_2 (X : (ByteArray) → ((Int) → Prop) → Prop) : Inst := ⟨63, (.cons .str (.cons (.fn (.func 43) .nil .nil) .nil)), .nil, (.cons (.int .i64) .nil), .nil, fun x y K => X x.1 (fun u0 => K (u0, ()) ())⟩
def Istrings_IndexFunc_2 : Inst := Jstrings_IndexFunc_2 Xstrings_IndexFunc_2
theorem Estrings_IndexFunc_2 (xstrings_indexFunc_2 : (ByteArray) → (Bool) → ((Int) → Prop) → Prop) (x : PL.T (.cons .str (.cons (.fn (.func 43) .nil .nil) .nil))) (y : PH.T .nil) (K : PL.T (.cons (.int .i64) .nil) → PH.T .nil → Prop) : Ystrings_IndexFunc_2 xstrings_indexFunc_2 x.1 (fun u0 => K (u0, ()) ()) = bodyC (envP Tryz.prog 8 gives ⟨tabC [Jstrings_indexFunc_2 xstrings_indexFunc_2], tabL []⟩) Tryz.f63 (Tryz.f63.body.getD .skip) (PL.enc (.cons .str (.cons (.fn (.func 43) .nil .nil) .nil)) x) (PH.enc .nil y) (resK (.cons (.int .i64) .nil) .nil K) := by kernel_rfl
theorem Istrings_IndexFunc_2_ok : InstOk Tryz.prog G.1 Istrings_IndexFunc_2 := inst_ok (gives := gives) (is := [Istrings_indexFunc_2]) [] (okCons Istrings_indexFunc_2_ok okNil) 8 follows Tryz.func63 (by kernel_rfl) (fun x => by kernel_rfl) (fun x y K => Estrings_IndexFunc_2 Xstrings_indexFunc_2 x y K)

/- strings.ContainsFunc -/
def Ystrings_ContainsFunc_1 (xstrings_IndexFunc_2 : (ByteArray) → ((Int) → Prop) → Prop) (a0 : ByteArray) (K : (Bool) → Prop) : Prop :=
 xstrings_IndexFunc_2 a0 (fun r1 =>
 K (decide (r1 ≥ (0 : Int))))
def Xstrings_ContainsFunc_1 (a0 : ByteArray) (K : (Bool) → Prop) : Prop := Ystrings_ContainsFunc_1 Xstrings_IndexFunc_2 a0 K
def Jstrings_ContainsFunc_1 (X : (ByteArray) → ((Bool) → Prop) → Prop) : Inst := ⟨45, (.cons .str (.cons (.fn (.func 43) .nil .nil) .nil)), .nil, (.cons .bool .nil), .nil, fun x y K => X x.1 (fun u0 => K (u0, ()) ())⟩
def Istrings_ContainsFunc_1 : Inst := Jstrings_ContainsFunc_1 Xstrings_ContainsFunc_1
theorem Estrings_ContainsFunc_1 (xstrings_IndexFunc_2 : (ByteArray) → ((Int) → Prop) → Prop) (x : PL.T (.cons .str (.cons (.fn (.func 43) .nil .nil) .nil))) (y : PH.T .nil) (K : PL.T (.cons .bool .nil) → PH.T .nil → Prop) : Ystrings_ContainsFunc_1 xstrings_IndexFunc_2 x.1 (fun u0 => K (u0, ()) ()) = bodyC (envP Tryz.prog 9 gives ⟨tabC [Jstrings_IndexFunc_2 xstrings_IndexFunc_2], tabL []⟩) Tryz.f45 (Tryz.f45.body.getD .skip) (PL.enc (.cons .str (.cons (.fn (.func 43) .nil .nil) .nil)) x) (PH.enc .nil y) (resK (.cons .bool .nil) .nil K) := by kernel_rfl
theorem Istrings_ContainsFunc_1_ok : InstOk Tryz.prog G.1 Istrings_ContainsFunc_1 := inst_ok (gives := gives) (is := [Istrings_IndexFunc_2]) [] (okCons Istrings_IndexFunc_2_ok okNil) 9 follows Tryz.func45 (by kernel_rfl) (fun x => by kernel_rfl) (fun x y K => Estrings_ContainsFunc_1 Xstrings_IndexFunc_2 x y K)

/- epact/foot.named -/
def Yfoot_named (xstrings_ContainsFunc_1 : (ByteArray) → ((Bool) → Prop) → Prop) (a0 : ByteArray) (K : (ByteArray) → Prop) : Prop :=
 xstrings_ContainsFunc_1 a0 (fun r1 =>
 (if r1 = true then
 (if (↑((1 : Nat) + ByteArray.size a0) : Int) > (9223372036854775807 : Int) then
 False
 else
 (if (↑(ByteArray.size (ByteArray.mk #[(60 : UInt8)] ++ a0) + (1 : Nat)) : Int) > (9223372036854775807 : Int) then
 False
 else
 (lt (ByteArray.mk #[(60 : UInt8)] ++ a0 ++ ByteArray.mk #[(62 : UInt8)]) fun v2 =>
 K v2)))
 else
 K a0))
def Xfoot_named (a0 : ByteArray) (K : (ByteArray) → Prop) : Prop := Yfoot_named Xstrings_ContainsFunc_1 a0 K
def Jfoot_named (X : (ByteArray) → ((ByteArray) → Prop) → Prop) : Inst := ⟨16, (.cons .str .nil), .nil, (.cons .str .nil), .nil, fun x y K => X x.1 (fun u0 => K (u0, ()) ())⟩
def Ifoot_named : Inst := Jfoot_named Xfoot_named
theorem Efoot_named (xstrings_ContainsFunc_1 : (ByteArray) → ((Bool) → Prop) → Prop) (x : PL.T (.cons .str .nil)) (y : PH.T .nil) (K : PL.T (.cons .str .nil) → PH.T .nil → Prop) : Yfoot_named xstrings_ContainsFunc_1 x.1 (fun u0 => K (u0, ()) ()) = bodyC (envP Tryz.prog 11 gives ⟨tabC [Jstrings_ContainsFunc_1 xstrings_ContainsFunc_1], tabL []⟩) Tryz.f16 (Tryz.f16.body.getD .skip) (PL.enc (.cons .str .nil) x) (PH.enc .nil y) (resK (.cons .str .nil) .nil K) := by kernel_rfl
theorem Ifoot_named_ok : InstOk Tryz.prog G.1 Ifoot_named := inst_ok (gives := gives) (is := [Istrings_ContainsFunc_1]) [] (okCons Istrings_ContainsFunc_1_ok okNil) 11 follows Tryz.func16 (by kernel_rfl) (fun x => by kernel_rfl) (fun x y K => Efoot_named Xstrings_ContainsFunc_1 x y K)

/- epact/rule.Text -/
def Yrule_Text (xrule_Right : (Int × Int × Int × Int × Int × Unit) → ((Bool) → Prop) → Prop) (xitoa : Int → (ByteArray → Prop) → Prop) (xrule_Clock : (Int) → ((ByteArray) → (Bool) → Prop) → Prop) (a0 : Int × Int × Int × Int × Int × Unit) (K : (ByteArray) → (Bool) → Prop) : Prop :=
 xrule_Right a0 (fun r1 =>
 (if (!r1) = true then
 K (ByteArray.mk #[]) false
 else
 xitoa a0.2.1 (fun r2 =>
 (if (a0.1 == (0 : Int)) = true then
 (if (↑((1 : Nat) + ByteArray.size r2) : Int) > (9223372036854775807 : Int) then
 False
 else
 (if (↑(ByteArray.size (ByteArray.mk #[(77 : UInt8)] ++ r2) + (1 : Nat)) : Int) > (9223372036854775807 : Int) then
 False
 else
 (lt (ByteArray.mk #[(77 : UInt8)] ++ r2 ++ ByteArray.mk #[(46 : UInt8)]) fun v3 =>
 xitoa a0.2.2.1 (fun r4 =>
 (if (↑(ByteArray.size v3 + ByteArray.size r4) : Int) > (9223372036854775807 : Int) then
 False
 else
 (if (↑(ByteArray.size (v3 ++ r4) + (1 : Nat)) : Int) > (9223372036854775807 : Int) then
 False
 else
 (lt (v3 ++ r4 ++ ByteArray.mk #[(46 : UInt8)]) fun v5 =>
 xitoa a0.2.2.2.1 (fun r6 =>
 (if (↑(ByteArray.size v5 + ByteArray.size r6) : Int) > (9223372036854775807 : Int) then
 False
 else
 (if (a0.2.2.2.2.1 != (7200 : Int)) = true then
 xrule_Clock a0.2.2.2.2.1 (fun r7 r8 =>
 (if (↑((1 : Nat) + ByteArray.size r7) : Int) > (9223372036854775807 : Int) then
 False
 else
 (if (↑(ByteArray.size (v5 ++ r6) + ByteArray.size (ByteArray.mk #[(47 : UInt8)] ++ r7)) : Int) > (9223372036854775807 : Int) then
 False
 else
 (lt (v5 ++ r6 ++ (ByteArray.mk #[(47 : UInt8)] ++ r7)) fun v9 =>
 K v9 true))))
 else
 K (v5 ++ r6) true))))))))))
 else
 (if (a0.1 == (1 : Int)) = true then
 (if (↑((1 : Nat) + ByteArray.size r2) : Int) > (9223372036854775807 : Int) then
 False
 else
 (if (a0.2.2.2.2.1 != (7200 : Int)) = true then
 xrule_Clock a0.2.2.2.2.1 (fun r10 r11 =>
 (if (↑((1 : Nat) + ByteArray.size r10) : Int) > (9223372036854775807 : Int) then
 False
 else
 (if (↑(ByteArray.size (ByteArray.mk #[(74 : UInt8)] ++ r2) + ByteArray.size (ByteArray.mk #[(47 : UInt8)] ++ r10)) : Int) > (9223372036854775807 : Int) then
 False
 else
 (lt (ByteArray.mk #[(74 : UInt8)] ++ r2 ++ (ByteArray.mk #[(47 : UInt8)] ++ r10)) fun v12 =>
 K v12 true))))
 else
 K (ByteArray.mk #[(74 : UInt8)] ++ r2) true))
 else
 (if (a0.2.2.2.2.1 != (7200 : Int)) = true then
 xrule_Clock a0.2.2.2.2.1 (fun r13 r14 =>
 (if (↑((1 : Nat) + ByteArray.size r13) : Int) > (9223372036854775807 : Int) then
 False
 else
 (if (↑(ByteArray.size r2 + ByteArray.size (ByteArray.mk #[(47 : UInt8)] ++ r13)) : Int) > (9223372036854775807 : Int) then
 False
 else
 (lt (r2 ++ (ByteArray.mk #[(47 : UInt8)] ++ r13)) fun v15 =>
 K v15 true))))
 else
 K r2 true))))))
def Xrule_Text (a0 : Int × Int × Int × Int × Int × Unit) (K : (ByteArray) → (Bool) → Prop) : Prop := Yrule_Text Xrule_Right Xitoa Xrule_Clock a0 K
def Jrule_Text (X : (Int × Int × Int × Int × Int × Unit) → ((ByteArray) → (Bool) → Prop) → Prop) : Inst := ⟨17, (.cons (.agg (.cons (.int .i64) (.cons (.int .i64) (.cons (.int .i64) (.cons (.int .i64) (.cons (.int .i64) .nil)))))) .nil), .nil, (.cons .str (.cons .bool .nil)), .nil, fun x y K => X x.1 (fun u0 u1 => K (u0, (u1, ())) ())⟩
def Irule_Text : Inst := Jrule_Text Xrule_Text
theorem Erule_Text (xrule_Right : (Int × Int × Int × Int × Int × Unit) → ((Bool) → Prop) → Prop) (xitoa : Int → (ByteArray → Prop) → Prop) (xrule_Clock : (Int) → ((ByteArray) → (Bool) → Prop) → Prop) (x : PL.T (.cons (.agg (.cons (.int .i64) (.cons (.int .i64) (.cons (.int .i64) (.cons (.int .i64) (.cons (.int .i64) .nil)))))) .nil)) (y : PH.T .nil) (K : PL.T (.cons .str (.cons .bool .nil)) → PH.T .nil → Prop) : Yrule_Text xrule_Right xitoa xrule_Clock x.1 (fun u0 u1 => K (u0, (u1, ())) ()) = bodyC (envP Tryz.prog 47 gives ⟨tabC [Jrule_Right xrule_Right, Jitoa xitoa, Jrule_Clock xrule_Clock], tabL []⟩) Tryz.f17 (Tryz.f17.body.getD .skip) (PL.enc (.cons (.agg (.cons (.int .i64) (.cons (.int .i64) (.cons (.int .i64) (.cons (.int .i64) (.cons (.int .i64) .nil)))))) .nil) x) (PH.enc .nil y) (resK (.cons .str (.cons .bool .nil)) .nil K) := by kernel_rfl
theorem Irule_Text_ok : InstOk Tryz.prog G.1 Irule_Text := inst_ok (gives := gives) (is := [Irule_Right, Iitoa, Irule_Clock]) [] (okCons Irule_Right_ok (okCons Iitoa_ok (okCons Irule_Clock_ok okNil))) 47 follows Tryz.func17 (by kernel_rfl) (fun x => by kernel_rfl) (fun x y K => Erule_Text Xrule_Right Xitoa Xrule_Clock x y K)

/- epact/foot.Text -/
def Yfoot_Text (xfoot_Right : (Int × Bool × ByteArray × Int × Bool × ByteArray × Bool × Int × Int × Int × Int × Int × Int × Int × Int × Int × Int × Unit) → ((Bool) → Prop) → Prop) (xrule_Clock : (Int) → ((ByteArray) → (Bool) → Prop) → Prop) (xfoot_named : (ByteArray) → ((ByteArray) → Prop) → Prop) (xrule_Text : (Int × Int × Int × Int × Int × Unit) → ((ByteArray) → (Bool) → Prop) → Prop) (a0 : Int × Bool × ByteArray × Int × Bool × ByteArray × Bool × Int × Int × Int × Int × Int × Int × Int × Int × Int × Int × Unit) (K : (ByteArray) → (Bool) → Prop) : Prop :=
 xfoot_Right a0 (fun r1 =>
 (if (!r1) = true then
 K (ByteArray.mk #[]) false
 else
 xrule_Clock (w64 ((0 : Int) - a0.1)) (fun r2 r3 =>
 xfoot_named a0.2.2.1 (fun r4 =>
 (if (↑(ByteArray.size r4 + ByteArray.size r2) : Int) > (9223372036854775807 : Int) then
 False
 else
 (if (!a0.2.2.2.2.2.2.1) = true then
 K (r4 ++ r2) true
 else
 xfoot_named a0.2.2.2.2.2.1 (fun r5 =>
 (if (↑(ByteArray.size (r4 ++ r2) + ByteArray.size r5) : Int) > (9223372036854775807 : Int) then
 False
 else
 (if (w64 (a0.2.2.2.1 - a0.1) != (3600 : Int)) = true then
 xrule_Clock (w64 ((0 : Int) - a0.2.2.2.1)) (fun r6 r7 =>
 (if (↑(ByteArray.size (r4 ++ r2 ++ r5) + ByteArray.size r6) : Int) > (9223372036854775807 : Int) then
 False
 else
 (lt (r4 ++ r2 ++ r5 ++ r6) fun v8 =>
 xrule_Text (a0.2.2.2.2.2.2.2.1, a0.2.2.2.2.2.2.2.2.1, a0.2.2.2.2.2.2.2.2.2.1, a0.2.2.2.2.2.2.2.2.2.2.1, a0.2.2.2.2.2.2.2.2.2.2.2.1, ()) (fun r9 r10 =>
 xrule_Text a0.2.2.2.2.2.2.2.2.2.2.2.2 (fun r11 r12 =>
 (if (↑(ByteArray.size v8 + (1 : Nat)) : Int) > (9223372036854775807 : Int) then
 False
 else
 (if (↑(ByteArray.size (v8 ++ ByteArray.mk #[(44 : UInt8)]) + ByteArray.size r9) : Int) > (9223372036854775807 : Int) then
 False
 else
 (lt (v8 ++ ByteArray.mk #[(44 : UInt8)] ++ r9) fun v13 =>
 (if (↑(ByteArray.size v13 + (1 : Nat)) : Int) > (9223372036854775807 : Int) then
 False
 else
 (if (↑(ByteArray.size (v13 ++ ByteArray.mk #[(44 : UInt8)]) + ByteArray.size r11) : Int) > (9223372036854775807 : Int) then
 False
 else
 (lt (v13 ++ ByteArray.mk #[(44 : UInt8)] ++ r11) fun v14 =>
 K v14 true)))))))))))
 else
 xrule_Text (a0.2.2.2.2.2.2.2.1, a0.2.2.2.2.2.2.2.2.1, a0.2.2.2.2.2.2.2.2.2.1, a0.2.2.2.2.2.2.2.2.2.2.1, a0.2.2.2.2.2.2.2.2.2.2.2.1, ()) (fun r15 r16 =>
 xrule_Text a0.2.2.2.2.2.2.2.2.2.2.2.2 (fun r17 r18 =>
 (if (↑(ByteArray.size (r4 ++ r2 ++ r5) + (1 : Nat)) : Int) > (9223372036854775807 : Int) then
 False
 else
 (lt (r4 ++ r2 ++ r5 ++ ByteArray.mk #[(44 : UInt8)]) fun v19 =>
 (if (↑(ByteArray.size v19 + ByteArray.size r15) : Int) > (9223372036854775807 : Int) then
 False
 else
 (if (↑(ByteArray.size (v19 ++ r15) + (1 : Nat)) : Int) > (9223372036854775807 : Int) then
 False
 else
 (lt (v19 ++ r15 ++ ByteArray.mk #[(44 : UInt8)]) fun v20 =>
 (if (↑(ByteArray.size v20 + ByteArray.size r17) : Int) > (9223372036854775807 : Int) then
 False
 else
 K (v20 ++ r17) true)))))))))))))))))
def Xfoot_Text (a0 : Int × Bool × ByteArray × Int × Bool × ByteArray × Bool × Int × Int × Int × Int × Int × Int × Int × Int × Int × Int × Unit) (K : (ByteArray) → (Bool) → Prop) : Prop := Yfoot_Text Xfoot_Right Xrule_Clock Xfoot_named Xrule_Text a0 K
def Jfoot_Text (X : (Int × Bool × ByteArray × Int × Bool × ByteArray × Bool × Int × Int × Int × Int × Int × Int × Int × Int × Int × Int × Unit) → ((ByteArray) → (Bool) → Prop) → Prop) : Inst := ⟨5, (.cons (.agg (.cons (.int .i64) (.cons .bool (.cons .str (.cons (.int .i64) (.cons .bool (.cons .str (.cons .bool (.cons (.int .i64) (.cons (.int .i64) (.cons (.int .i64) (.cons (.int .i64) (.cons (.int .i64) (.cons (.int .i64) (.cons (.int .i64) (.cons (.int .i64) (.cons (.int .i64) (.cons (.int .i64) .nil)))))))))))))))))) .nil), .nil, (.cons .str (.cons .bool .nil)), .nil, fun x y K => X x.1 (fun u0 u1 => K (u0, (u1, ())) ())⟩
def Ifoot_Text : Inst := Jfoot_Text Xfoot_Text
theorem Efoot_Text (xfoot_Right : (Int × Bool × ByteArray × Int × Bool × ByteArray × Bool × Int × Int × Int × Int × Int × Int × Int × Int × Int × Int × Unit) → ((Bool) → Prop) → Prop) (xrule_Clock : (Int) → ((ByteArray) → (Bool) → Prop) → Prop) (xfoot_named : (ByteArray) → ((ByteArray) → Prop) → Prop) (xrule_Text : (Int × Int × Int × Int × Int × Unit) → ((ByteArray) → (Bool) → Prop) → Prop) (x : PL.T (.cons (.agg (.cons (.int .i64) (.cons .bool (.cons .str (.cons (.int .i64) (.cons .bool (.cons .str (.cons .bool (.cons (.int .i64) (.cons (.int .i64) (.cons (.int .i64) (.cons (.int .i64) (.cons (.int .i64) (.cons (.int .i64) (.cons (.int .i64) (.cons (.int .i64) (.cons (.int .i64) (.cons (.int .i64) .nil)))))))))))))))))) .nil)) (y : PH.T .nil) (K : PL.T (.cons .str (.cons .bool .nil)) → PH.T .nil → Prop) : Yfoot_Text xfoot_Right xrule_Clock xfoot_named xrule_Text x.1 (fun u0 u1 => K (u0, (u1, ())) ()) = bodyC (envP Tryz.prog 76 gives ⟨tabC [Jfoot_Right xfoot_Right, Jrule_Clock xrule_Clock, Jfoot_named xfoot_named, Jrule_Text xrule_Text], tabL []⟩) Tryz.f5 (Tryz.f5.body.getD .skip) (PL.enc (.cons (.agg (.cons (.int .i64) (.cons .bool (.cons .str (.cons (.int .i64) (.cons .bool (.cons .str (.cons .bool (.cons (.int .i64) (.cons (.int .i64) (.cons (.int .i64) (.cons (.int .i64) (.cons (.int .i64) (.cons (.int .i64) (.cons (.int .i64) (.cons (.int .i64) (.cons (.int .i64) (.cons (.int .i64) .nil)))))))))))))))))) .nil) x) (PH.enc .nil y) (resK (.cons .str (.cons .bool .nil)) .nil K) := by kernel_rfl
theorem Ifoot_Text_ok : InstOk Tryz.prog G.1 Ifoot_Text := inst_ok (gives := gives) (is := [Ifoot_Right, Irule_Clock, Ifoot_named, Irule_Text]) [] (okCons Ifoot_Right_ok (okCons Irule_Clock_ok (okCons Ifoot_named_ok (okCons Irule_Text_ok okNil)))) 76 follows Tryz.func5 (by kernel_rfl) (fun x => by kernel_rfl) (fun x y K => Efoot_Text Xfoot_Right Xrule_Clock Xfoot_named Xrule_Text x y K)

/- epact/day.Leap -/
def Yday_Leap (a0 : Int) (K : (Bool) → Prop) : Prop :=
 (if (Int.tmod a0 (4 : Int) == (0 : Int)) = true then
 (if (Int.tmod a0 (100 : Int) != (0 : Int)) = true then
 K true
 else
 K (Int.tmod a0 (400 : Int) == (0 : Int)))
 else
 K false)
def Xday_Leap (a0 : Int) (K : (Bool) → Prop) : Prop := Yday_Leap a0 K
def Jday_Leap (X : (Int) → ((Bool) → Prop) → Prop) : Inst := ⟨76, (.cons (.int .i64) .nil), .nil, (.cons .bool .nil), .nil, fun x y K => X x.1 (fun u0 => K (u0, ()) ())⟩
def Iday_Leap : Inst := Jday_Leap Xday_Leap
theorem Eday_Leap (x : PL.T (.cons (.int .i64) .nil)) (y : PH.T .nil) (K : PL.T (.cons .bool .nil) → PH.T .nil → Prop) : Yday_Leap x.1 (fun u0 => K (u0, ()) ()) = bodyC (envP Tryz.prog 16 gives ⟨tabC [], tabL []⟩) Tryz.f76 (Tryz.f76.body.getD .skip) (PL.enc (.cons (.int .i64) .nil) x) (PH.enc .nil y) (resK (.cons .bool .nil) .nil K) := by kernel_rfl
theorem Iday_Leap_ok : InstOk Tryz.prog G.1 Iday_Leap := inst_ok (gives := gives) (is := []) [] okNil 16 follows Tryz.func76 (by kernel_rfl) (fun x => by kernel_rfl) (fun x y K => Eday_Leap x y K)

/- epact/day.Last -/
def Yday_Last (xday_Leap : (Int) → ((Bool) → Prop) → Prop) (a0 : Int) (a1 : Int) (K : (Int) → (Bool) → Prop) : Prop :=
 (if decide (a0 < (1 : Int)) = true then
 K (0 : Int) false
 else
 (if decide (a0 > (9999 : Int)) = true then
 K (0 : Int) false
 else
 (if decide (a1 < (1 : Int)) = true then
 K (0 : Int) false
 else
 (if decide (a1 > (12 : Int)) = true then
 K (0 : Int) false
 else
 (if (0 : Int) ≤ w64 (a1 - (1 : Int)) ∧ w64 (a1 - (1 : Int)) < (12 : Int) then
 (Eng.asInt IntKind.i64 ([Eng.V.c (Value.int IntKind.i64 (31 : Int)), Eng.V.c (Value.int IntKind.i64 (28 : Int)), Eng.V.c (Value.int IntKind.i64 (31 : Int)), Eng.V.c (Value.int IntKind.i64 (30 : Int)), Eng.V.c (Value.int IntKind.i64 (31 : Int)), Eng.V.c (Value.int IntKind.i64 (30 : Int)), Eng.V.c (Value.int IntKind.i64 (31 : Int)), Eng.V.c (Value.int IntKind.i64 (31 : Int)), Eng.V.c (Value.int IntKind.i64 (30 : Int)), Eng.V.c (Value.int IntKind.i64 (31 : Int)), Eng.V.c (Value.int IntKind.i64 (30 : Int)), Eng.V.c (Value.int IntKind.i64 (31 : Int))][Int.toNat (w64 (a1 - (1 : Int))) * (1 : Nat)]?) False fun n2 =>
 (if (a1 == (2 : Int)) = true then
 xday_Leap a0 (fun r3 =>
 (if r3 = true then
 K (w64 (n2 + (1 : Int))) true
 else
 K n2 true))
 else
 K n2 true))
 else
 False)))))
def Xday_Last (a0 : Int) (a1 : Int) (K : (Int) → (Bool) → Prop) : Prop := Yday_Last Xday_Leap a0 a1 K
def Jday_Last (X : (Int) → (Int) → ((Int) → (Bool) → Prop) → Prop) : Inst := ⟨77, (.cons (.int .i64) (.cons (.int .i64) .nil)), .nil, (.cons (.int .i64) (.cons .bool .nil)), .nil, fun x y K => X x.1 x.2.1 (fun u0 u1 => K (u0, (u1, ())) ())⟩
def Iday_Last : Inst := Jday_Last Xday_Last
theorem Eday_Last (xday_Leap : (Int) → ((Bool) → Prop) → Prop) (x : PL.T (.cons (.int .i64) (.cons (.int .i64) .nil))) (y : PH.T .nil) (K : PL.T (.cons (.int .i64) (.cons .bool .nil)) → PH.T .nil → Prop) : Yday_Last xday_Leap x.1 x.2.1 (fun u0 u1 => K (u0, (u1, ())) ()) = bodyC (envP Tryz.prog 34 gives ⟨tabC [Jday_Leap xday_Leap], tabL []⟩) Tryz.f77 (Tryz.f77.body.getD .skip) (PL.enc (.cons (.int .i64) (.cons (.int .i64) .nil)) x) (PH.enc .nil y) (resK (.cons (.int .i64) (.cons .bool .nil)) .nil K) := by kernel_rfl
theorem Iday_Last_ok : InstOk Tryz.prog G.1 Iday_Last := inst_ok (gives := gives) (is := [Iday_Leap]) [] (okCons Iday_Leap_ok okNil) 34 follows Tryz.func77 (by kernel_rfl) (fun x => by kernel_rfl) (fun x y K => Eday_Last Xday_Leap x y K)

/- epact/num.Div -/
def Ynum_Div (a0 : Int) (a1 : Int) (K : (Int) → (Int) → (Bool) → Prop) : Prop :=
 (if decide (a1 < (1 : Int)) = true then
 K (0 : Int) (0 : Int) false
 else
 (if a1 = (0 : Int) then
 False
 else
 (if a1 = (0 : Int) then
 False
 else
 (if decide (Int.tmod a0 a1 < (0 : Int)) = true then
 (lt (w64 (w64 (Int.tdiv a0 a1) - (1 : Int))) fun v2 =>
 K v2 (w64 (Int.tmod a0 a1 + a1)) true)
 else
 K (w64 (Int.tdiv a0 a1)) (Int.tmod a0 a1) true))))
def Xnum_Div (a0 : Int) (a1 : Int) (K : (Int) → (Int) → (Bool) → Prop) : Prop := Ynum_Div a0 a1 K
def Jnum_Div (X : (Int) → (Int) → ((Int) → (Int) → (Bool) → Prop) → Prop) : Inst := ⟨58, (.cons (.int .i64) (.cons (.int .i64) .nil)), .nil, (.cons (.int .i64) (.cons (.int .i64) (.cons .bool .nil))), .nil, fun x y K => X x.1 x.2.1 (fun u0 u1 u2 => K (u0, (u1, (u2, ()))) ())⟩
def Inum_Div : Inst := Jnum_Div Xnum_Div
theorem Enum_Div (x : PL.T (.cons (.int .i64) (.cons (.int .i64) .nil))) (y : PH.T .nil) (K : PL.T (.cons (.int .i64) (.cons (.int .i64) (.cons .bool .nil))) → PH.T .nil → Prop) : Ynum_Div x.1 x.2.1 (fun u0 u1 u2 => K (u0, (u1, (u2, ()))) ()) = bodyC (envP Tryz.prog 24 gives ⟨tabC [], tabL []⟩) Tryz.f58 (Tryz.f58.body.getD .skip) (PL.enc (.cons (.int .i64) (.cons (.int .i64) .nil)) x) (PH.enc .nil y) (resK (.cons (.int .i64) (.cons (.int .i64) (.cons .bool .nil))) .nil K) := by kernel_rfl
theorem Inum_Div_ok : InstOk Tryz.prog G.1 Inum_Div := inst_ok (gives := gives) (is := []) [] okNil 24 follows Tryz.func58 (by kernel_rfl) (fun x => by kernel_rfl) (fun x y K => Enum_Div x y K)

/- epact/day.Number -/
def Yday_Number (xday_Last : (Int) → (Int) → ((Int) → (Bool) → Prop) → Prop) (xnum_Div : (Int) → (Int) → ((Int) → (Int) → (Bool) → Prop) → Prop) (a0 : Int) (a1 : Int) (a2 : Int) (K : (Int) → (Bool) → Prop) : Prop :=
 xday_Last a0 a1 (fun r3 r4 =>
 (if (!r4) = true then
 K (0 : Int) false
 else
 (if decide (a2 < (1 : Int)) = true then
 K (0 : Int) false
 else
 (if decide (a2 > r3) = true then
 K (0 : Int) false
 else
 (if decide (a1 < (3 : Int)) = true then
 xnum_Div (w64 (a0 - (1 : Int))) (400 : Int) (fun r5 r6 r7 =>
 (lt (w64 (w64 (a1 + (12 : Int)) - (3 : Int))) fun v8 =>
 (lt (w64 (w64 ((153 : Int) * v8) + (2 : Int))) fun v9 =>
 (lt (w64 (w64 (Int.tdiv v9 (5 : Int)) + a2)) fun v10 =>
 (lt (w64 (w64 ((146097 : Int) * r5) + w64 ((365 : Int) * r6))) fun v11 =>
 (lt (w64 (v11 + w64 (Int.tdiv r6 (4 : Int)))) fun v12 =>
 (lt (w64 (v12 - w64 (Int.tdiv r6 (100 : Int)))) fun v13 =>
 (lt (w64 (v13 + w64 (v10 - (1 : Int)))) fun v14 =>
 K (w64 (v14 - (719468 : Int))) true))))))))
 else
 xnum_Div a0 (400 : Int) (fun r15 r16 r17 =>
 (lt (w64 ((153 : Int) * w64 (a1 - (3 : Int)))) fun v18 =>
 (lt (w64 (Int.tdiv (w64 (v18 + (2 : Int))) (5 : Int))) fun v19 =>
 (lt (w64 (w64 (v19 + a2) - (1 : Int))) fun v20 =>
 (lt (w64 (w64 ((146097 : Int) * r15) + w64 ((365 : Int) * r16))) fun v21 =>
 (lt (w64 (v21 + w64 (Int.tdiv r16 (4 : Int)))) fun v22 =>
 (lt (w64 (v22 - w64 (Int.tdiv r16 (100 : Int)))) fun v23 =>
 (lt (w64 (w64 (v23 + v20) - (719468 : Int))) fun v24 =>
 K v24 true)))))))))))))
def Xday_Number (a0 : Int) (a1 : Int) (a2 : Int) (K : (Int) → (Bool) → Prop) : Prop := Yday_Number Xday_Last Xnum_Div a0 a1 a2 K
def Jday_Number (X : (Int) → (Int) → (Int) → ((Int) → (Bool) → Prop) → Prop) : Inst := ⟨75, (.cons (.int .i64) (.cons (.int .i64) (.cons (.int .i64) .nil))), .nil, (.cons (.int .i64) (.cons .bool .nil)), .nil, fun x y K => X x.1 x.2.1 x.2.2.1 (fun u0 u1 => K (u0, (u1, ())) ())⟩
def Iday_Number : Inst := Jday_Number Xday_Number
theorem Eday_Number (xday_Last : (Int) → (Int) → ((Int) → (Bool) → Prop) → Prop) (xnum_Div : (Int) → (Int) → ((Int) → (Int) → (Bool) → Prop) → Prop) (x : PL.T (.cons (.int .i64) (.cons (.int .i64) (.cons (.int .i64) .nil)))) (y : PH.T .nil) (K : PL.T (.cons (.int .i64) (.cons .bool .nil)) → PH.T .nil → Prop) : Yday_Number xday_Last xnum_Div x.1 x.2.1 x.2.2.1 (fun u0 u1 => K (u0, (u1, ())) ()) = bodyC (envP Tryz.prog 65 gives ⟨tabC [Jday_Last xday_Last, Jnum_Div xnum_Div], tabL []⟩) Tryz.f75 (Tryz.f75.body.getD .skip) (PL.enc (.cons (.int .i64) (.cons (.int .i64) (.cons (.int .i64) .nil))) x) (PH.enc .nil y) (resK (.cons (.int .i64) (.cons .bool .nil)) .nil K) := by kernel_rfl
theorem Iday_Number_ok : InstOk Tryz.prog G.1 Iday_Number := inst_ok (gives := gives) (is := [Iday_Last, Inum_Div]) [] (okCons Iday_Last_ok (okCons Inum_Div_ok okNil)) 65 follows Tryz.func75 (by kernel_rfl) (fun x => by kernel_rfl) (fun x y K => Eday_Number Xday_Last Xnum_Div x y K)

/- epact/day.Week -/
def Yday_Week (xnum_Div : (Int) → (Int) → ((Int) → (Int) → (Bool) → Prop) → Prop) (a0 : Int) (K : (Int) → Prop) : Prop :=
 xnum_Div (w64 (Int.tmod a0 (7 : Int) + (4 : Int))) (7 : Int) (fun r1 r2 r3 =>
 K r2)
def Xday_Week (a0 : Int) (K : (Int) → Prop) : Prop := Yday_Week Xnum_Div a0 K
def Jday_Week (X : (Int) → ((Int) → Prop) → Prop) : Inst := ⟨78, (.cons (.int .i64) .nil), .nil, (.cons (.int .i64) .nil), .nil, fun x y K => X x.1 (fun u0 => K (u0, ()) ())⟩
def Iday_Week : Inst := Jday_Week Xday_Week
theorem Eday_Week (xnum_Div : (Int) → (Int) → ((Int) → (Int) → (Bool) → Prop) → Prop) (x : PL.T (.cons (.int .i64) .nil)) (y : PH.T .nil) (K : PL.T (.cons (.int .i64) .nil) → PH.T .nil → Prop) : Yday_Week xnum_Div x.1 (fun u0 => K (u0, ()) ()) = bodyC (envP Tryz.prog 15 gives ⟨tabC [Jnum_Div xnum_Div], tabL []⟩) Tryz.f78 (Tryz.f78.body.getD .skip) (PL.enc (.cons (.int .i64) .nil) x) (PH.enc .nil y) (resK (.cons (.int .i64) .nil) .nil K) := by kernel_rfl
theorem Iday_Week_ok : InstOk Tryz.prog G.1 Iday_Week := inst_ok (gives := gives) (is := [Inum_Div]) [] (okCons Inum_Div_ok okNil) 15 follows Tryz.func78 (by kernel_rfl) (fun x => by kernel_rfl) (fun x y K => Eday_Week Xnum_Div x y K)

/- epact/rule.Day -/
def Yrule_Day (xday_Number : (Int) → (Int) → (Int) → ((Int) → (Bool) → Prop) → Prop) (xrule_Right : (Int × Int × Int × Int × Int × Unit) → ((Bool) → Prop) → Prop) (xday_Leap : (Int) → ((Bool) → Prop) → Prop) (xday_Last : (Int) → (Int) → ((Int) → (Bool) → Prop) → Prop) (xday_Week : (Int) → ((Int) → Prop) → Prop) (a0 : Int × Int × Int × Int × Int × Unit) (a1 : Int) (K : (Int) → (Bool) → Prop) : Prop :=
 xday_Number a1 (1 : Int) (1 : Int) (fun r2 r3 =>
 (if (!r3) = true then
 K (0 : Int) false
 else
 xrule_Right a0 (fun r4 =>
 (if (!r4) = true then
 K (0 : Int) false
 else
 (if (a0.1 == (2 : Int)) = true then
 K (w64 (r2 + a0.2.1)) true
 else
 (if (a0.1 == (1 : Int)) = true then
 (if decide (a0.2.1 ≤ (59 : Int)) = true then
 (lt (w64 (w64 (r2 - (1 : Int)) + a0.2.1)) fun v5 =>
 K v5 true)
 else
 xday_Leap a1 (fun r6 =>
 (if (!r6) = true then
 (lt (w64 (w64 (r2 - (1 : Int)) + a0.2.1)) fun v7 =>
 K v7 true)
 else
 K (w64 (r2 + a0.2.1)) true)))
 else
 xday_Number a1 a0.2.1 (1 : Int) (fun r8 r9 =>
 xday_Last a1 a0.2.1 (fun r10 r11 =>
 (lt (w64 ((7 : Int) * w64 (a0.2.2.1 - (1 : Int)))) fun v12 =>
 xday_Week r8 (fun r13 =>
 (lt (w64 (w64 (a0.2.2.2.1 - r13) + (7 : Int))) fun v14 =>
 (lt (decide (w64 (Int.tmod v14 (7 : Int) + v12) ≥ r10)) fun v15 =>
 (if v15 = true then
 (lt (w64 (w64 (Int.tmod v14 (7 : Int) + v12) - (7 : Int))) fun v16 =>
 K (w64 (r8 + v16)) true)
 else
 (lt (w64 (r8 + w64 (Int.tmod v14 (7 : Int) + v12))) fun v17 =>
 K v17 true))))))))))))))
def Xrule_Day (a0 : Int × Int × Int × Int × Int × Unit) (a1 : Int) (K : (Int) → (Bool) → Prop) : Prop := Yrule_Day Xday_Number Xrule_Right Xday_Leap Xday_Last Xday_Week a0 a1 K
def Jrule_Day (X : (Int × Int × Int × Int × Int × Unit) → (Int) → ((Int) → (Bool) → Prop) → Prop) : Inst := ⟨55, (.cons (.agg (.cons (.int .i64) (.cons (.int .i64) (.cons (.int .i64) (.cons (.int .i64) (.cons (.int .i64) .nil)))))) (.cons (.int .i64) .nil)), .nil, (.cons (.int .i64) (.cons .bool .nil)), .nil, fun x y K => X x.1 x.2.1 (fun u0 u1 => K (u0, (u1, ())) ())⟩
def Irule_Day : Inst := Jrule_Day Xrule_Day
theorem Erule_Day (xday_Number : (Int) → (Int) → (Int) → ((Int) → (Bool) → Prop) → Prop) (xrule_Right : (Int × Int × Int × Int × Int × Unit) → ((Bool) → Prop) → Prop) (xday_Leap : (Int) → ((Bool) → Prop) → Prop) (xday_Last : (Int) → (Int) → ((Int) → (Bool) → Prop) → Prop) (xday_Week : (Int) → ((Int) → Prop) → Prop) (x : PL.T (.cons (.agg (.cons (.int .i64) (.cons (.int .i64) (.cons (.int .i64) (.cons (.int .i64) (.cons (.int .i64) .nil)))))) (.cons (.int .i64) .nil))) (y : PH.T .nil) (K : PL.T (.cons (.int .i64) (.cons .bool .nil)) → PH.T .nil → Prop) : Yrule_Day xday_Number xrule_Right xday_Leap xday_Last xday_Week x.1 x.2.1 (fun u0 u1 => K (u0, (u1, ())) ()) = bodyC (envP Tryz.prog 83 gives ⟨tabC [Jday_Number xday_Number, Jrule_Right xrule_Right, Jday_Leap xday_Leap, Jday_Last xday_Last, Jday_Week xday_Week], tabL []⟩) Tryz.f55 (Tryz.f55.body.getD .skip) (PL.enc (.cons (.agg (.cons (.int .i64) (.cons (.int .i64) (.cons (.int .i64) (.cons (.int .i64) (.cons (.int .i64) .nil)))))) (.cons (.int .i64) .nil)) x) (PH.enc .nil y) (resK (.cons (.int .i64) (.cons .bool .nil)) .nil K) := by kernel_rfl
theorem Irule_Day_ok : InstOk Tryz.prog G.1 Irule_Day := inst_ok (gives := gives) (is := [Iday_Number, Irule_Right, Iday_Leap, Iday_Last, Iday_Week]) [] (okCons Iday_Number_ok (okCons Irule_Right_ok (okCons Iday_Leap_ok (okCons Iday_Last_ok (okCons Iday_Week_ok okNil))))) 83 follows Tryz.func55 (by kernel_rfl) (fun x => by kernel_rfl) (fun x y K => Erule_Day Xday_Number Xrule_Right Xday_Leap Xday_Last Xday_Week x y K)

/- epact/rule.At -/
def Yrule_At (xrule_Day : (Int × Int × Int × Int × Int × Unit) → (Int) → ((Int) → (Bool) → Prop) → Prop) (a0 : Int × Int × Int × Int × Int × Unit) (a1 : Int) (K : (Int) → (Bool) → Prop) : Prop :=
 xrule_Day a0 a1 (fun r2 r3 =>
 (if (!r3) = true then
 K (0 : Int) false
 else
 (lt (w64 (w64 (r2 * (86400 : Int)) + a0.2.2.2.2.1)) fun v4 =>
 K v4 true)))
def Xrule_At (a0 : Int × Int × Int × Int × Int × Unit) (a1 : Int) (K : (Int) → (Bool) → Prop) : Prop := Yrule_At Xrule_Day a0 a1 K
def Jrule_At (X : (Int × Int × Int × Int × Int × Unit) → (Int) → ((Int) → (Bool) → Prop) → Prop) : Inst := ⟨29, (.cons (.agg (.cons (.int .i64) (.cons (.int .i64) (.cons (.int .i64) (.cons (.int .i64) (.cons (.int .i64) .nil)))))) (.cons (.int .i64) .nil)), .nil, (.cons (.int .i64) (.cons .bool .nil)), .nil, fun x y K => X x.1 x.2.1 (fun u0 u1 => K (u0, (u1, ())) ())⟩
def Irule_At : Inst := Jrule_At Xrule_At
theorem Erule_At (xrule_Day : (Int × Int × Int × Int × Int × Unit) → (Int) → ((Int) → (Bool) → Prop) → Prop) (x : PL.T (.cons (.agg (.cons (.int .i64) (.cons (.int .i64) (.cons (.int .i64) (.cons (.int .i64) (.cons (.int .i64) .nil)))))) (.cons (.int .i64) .nil))) (y : PH.T .nil) (K : PL.T (.cons (.int .i64) (.cons .bool .nil)) → PH.T .nil → Prop) : Yrule_At xrule_Day x.1 x.2.1 (fun u0 u1 => K (u0, (u1, ())) ()) = bodyC (envP Tryz.prog 21 gives ⟨tabC [Jrule_Day xrule_Day], tabL []⟩) Tryz.f29 (Tryz.f29.body.getD .skip) (PL.enc (.cons (.agg (.cons (.int .i64) (.cons (.int .i64) (.cons (.int .i64) (.cons (.int .i64) (.cons (.int .i64) .nil)))))) (.cons (.int .i64) .nil)) x) (PH.enc .nil y) (resK (.cons (.int .i64) (.cons .bool .nil)) .nil K) := by kernel_rfl
theorem Irule_At_ok : InstOk Tryz.prog G.1 Irule_At := inst_ok (gives := gives) (is := [Irule_Day]) [] (okCons Irule_Day_ok okNil) 21 follows Tryz.func29 (by kernel_rfl) (fun x => by kernel_rfl) (fun x y K => Erule_At Xrule_Day x y K)

/- epact/foot.Span -/
def Yfoot_Span (xfoot_Right : (Int × Bool × ByteArray × Int × Bool × ByteArray × Bool × Int × Int × Int × Int × Int × Int × Int × Int × Int × Int × Unit) → ((Bool) → Prop) → Prop) (xrule_At : (Int × Int × Int × Int × Int × Unit) → (Int) → ((Int) → (Bool) → Prop) → Prop) (a0 : Int × Bool × ByteArray × Int × Bool × ByteArray × Bool × Int × Int × Int × Int × Int × Int × Int × Int × Int × Int × Unit) (a1 : Int) (K : (Int) → (Int) → (Bool) → Prop) : Prop :=
 (if (!a0.2.2.2.2.2.2.1) = true then
 K (0 : Int) (0 : Int) false
 else
 xfoot_Right a0 (fun r2 =>
 (if (!r2) = true then
 K (0 : Int) (0 : Int) false
 else
 xrule_At (a0.2.2.2.2.2.2.2.1, a0.2.2.2.2.2.2.2.2.1, a0.2.2.2.2.2.2.2.2.2.1, a0.2.2.2.2.2.2.2.2.2.2.1, a0.2.2.2.2.2.2.2.2.2.2.2.1, ()) a1 (fun r3 r4 =>
 (if (!r4) = true then
 K (0 : Int) (0 : Int) false
 else
 xrule_At a0.2.2.2.2.2.2.2.2.2.2.2.2 a1 (fun r5 r6 =>
 K (w64 (r3 - a0.1)) (w64 (r5 - a0.2.2.2.1)) true))))))
def Xfoot_Span (a0 : Int × Bool × ByteArray × Int × Bool × ByteArray × Bool × Int × Int × Int × Int × Int × Int × Int × Int × Int × Int × Unit) (a1 : Int) (K : (Int) → (Int) → (Bool) → Prop) : Prop := Yfoot_Span Xfoot_Right Xrule_At a0 a1 K
def Jfoot_Span (X : (Int × Bool × ByteArray × Int × Bool × ByteArray × Bool × Int × Int × Int × Int × Int × Int × Int × Int × Int × Int × Unit) → (Int) → ((Int) → (Int) → (Bool) → Prop) → Prop) : Inst := ⟨9, (.cons (.agg (.cons (.int .i64) (.cons .bool (.cons .str (.cons (.int .i64) (.cons .bool (.cons .str (.cons .bool (.cons (.int .i64) (.cons (.int .i64) (.cons (.int .i64) (.cons (.int .i64) (.cons (.int .i64) (.cons (.int .i64) (.cons (.int .i64) (.cons (.int .i64) (.cons (.int .i64) (.cons (.int .i64) .nil)))))))))))))))))) (.cons (.int .i64) .nil)), .nil, (.cons (.int .i64) (.cons (.int .i64) (.cons .bool .nil))), .nil, fun x y K => X x.1 x.2.1 (fun u0 u1 u2 => K (u0, (u1, (u2, ()))) ())⟩
def Ifoot_Span : Inst := Jfoot_Span Xfoot_Span
theorem Efoot_Span (xfoot_Right : (Int × Bool × ByteArray × Int × Bool × ByteArray × Bool × Int × Int × Int × Int × Int × Int × Int × Int × Int × Int × Unit) → ((Bool) → Prop) → Prop) (xrule_At : (Int × Int × Int × Int × Int × Unit) → (Int) → ((Int) → (Bool) → Prop) → Prop) (x : PL.T (.cons (.agg (.cons (.int .i64) (.cons .bool (.cons .str (.cons (.int .i64) (.cons .bool (.cons .str (.cons .bool (.cons (.int .i64) (.cons (.int .i64) (.cons (.int .i64) (.cons (.int .i64) (.cons (.int .i64) (.cons (.int .i64) (.cons (.int .i64) (.cons (.int .i64) (.cons (.int .i64) (.cons (.int .i64) .nil)))))))))))))))))) (.cons (.int .i64) .nil))) (y : PH.T .nil) (K : PL.T (.cons (.int .i64) (.cons (.int .i64) (.cons .bool .nil))) → PH.T .nil → Prop) : Yfoot_Span xfoot_Right xrule_At x.1 x.2.1 (fun u0 u1 u2 => K (u0, (u1, (u2, ()))) ()) = bodyC (envP Tryz.prog 41 gives ⟨tabC [Jfoot_Right xfoot_Right, Jrule_At xrule_At], tabL []⟩) Tryz.f9 (Tryz.f9.body.getD .skip) (PL.enc (.cons (.agg (.cons (.int .i64) (.cons .bool (.cons .str (.cons (.int .i64) (.cons .bool (.cons .str (.cons .bool (.cons (.int .i64) (.cons (.int .i64) (.cons (.int .i64) (.cons (.int .i64) (.cons (.int .i64) (.cons (.int .i64) (.cons (.int .i64) (.cons (.int .i64) (.cons (.int .i64) (.cons (.int .i64) .nil)))))))))))))))))) (.cons (.int .i64) .nil)) x) (PH.enc .nil y) (resK (.cons (.int .i64) (.cons (.int .i64) (.cons .bool .nil))) .nil K) := by kernel_rfl
theorem Ifoot_Span_ok : InstOk Tryz.prog G.1 Ifoot_Span := inst_ok (gives := gives) (is := [Ifoot_Right, Irule_At]) [] (okCons Ifoot_Right_ok (okCons Irule_At_ok okNil)) 41 follows Tryz.func9 (by kernel_rfl) (fun x => by kernel_rfl) (fun x y K => Efoot_Span Xfoot_Right Xrule_At x y K)

/- epact/num.Add -/
def Ynum_Add (a0 : Int) (a1 : Int) (K : (Int) → (Bool) → Prop) : Prop :=
 (lt (!decide (w64 (a0 + a1) > a0) == decide (a1 > (0 : Int))) fun v2 =>
 (if v2 = true then
 (if (a1 != (0 : Int)) = true then
 K (0 : Int) false
 else
 K (w64 (a0 + a1)) true)
 else
 K (w64 (a0 + a1)) true))
def Xnum_Add (a0 : Int) (a1 : Int) (K : (Int) → (Bool) → Prop) : Prop := Ynum_Add a0 a1 K
def Jnum_Add (X : (Int) → (Int) → ((Int) → (Bool) → Prop) → Prop) : Inst := ⟨35, (.cons (.int .i64) (.cons (.int .i64) .nil)), .nil, (.cons (.int .i64) (.cons .bool .nil)), .nil, fun x y K => X x.1 x.2.1 (fun u0 u1 => K (u0, (u1, ())) ())⟩
def Inum_Add : Inst := Jnum_Add Xnum_Add
theorem Enum_Add (x : PL.T (.cons (.int .i64) (.cons (.int .i64) .nil))) (y : PH.T .nil) (K : PL.T (.cons (.int .i64) (.cons .bool .nil)) → PH.T .nil → Prop) : Ynum_Add x.1 x.2.1 (fun u0 u1 => K (u0, (u1, ())) ()) = bodyC (envP Tryz.prog 21 gives ⟨tabC [], tabL []⟩) Tryz.f35 (Tryz.f35.body.getD .skip) (PL.enc (.cons (.int .i64) (.cons (.int .i64) .nil)) x) (PH.enc .nil y) (resK (.cons (.int .i64) (.cons .bool .nil)) .nil K) := by kernel_rfl
theorem Inum_Add_ok : InstOk Tryz.prog G.1 Inum_Add := inst_ok (gives := gives) (is := []) [] okNil 21 follows Tryz.func35 (by kernel_rfl) (fun x => by kernel_rfl) (fun x y K => Enum_Add x y K)

/- epact/day.Date -/
def Yday_Date (xnum_Div : (Int) → (Int) → ((Int) → (Int) → (Bool) → Prop) → Prop) (a0 : Int) (K : (Int) → (Int) → (Int) → (Bool) → Prop) : Prop :=
 (if decide (a0 < (-719162 : Int)) = true then
 K (0 : Int) (0 : Int) (0 : Int) false
 else
 (if decide (a0 > (2932896 : Int)) = true then
 K (0 : Int) (0 : Int) (0 : Int) false
 else
 xnum_Div (w64 (a0 + (719468 : Int))) (146097 : Int) (fun r1 r2 r3 =>
 (lt (w64 (r2 - w64 (Int.tdiv r2 (1460 : Int)))) fun v4 =>
 (lt (w64 (v4 + w64 (Int.tdiv r2 (36524 : Int)))) fun v5 =>
 (lt (w64 (v5 - w64 (Int.tdiv r2 (146096 : Int)))) fun v6 =>
 (lt (w64 ((365 : Int) * w64 (Int.tdiv v6 (365 : Int)))) fun v7 =>
 (lt (w64 (Int.tdiv (w64 (Int.tdiv v6 (365 : Int))) (4 : Int))) fun v8 =>
 (lt (w64 (Int.tdiv (w64 (Int.tdiv v6 (365 : Int))) (100 : Int))) fun v9 =>
 (lt (w64 (w64 (v7 + v8) - v9)) fun v10 =>
 (lt (w64 ((5 : Int) * w64 (r2 - v10))) fun v11 =>
 (lt (w64 (Int.tdiv (w64 (v11 + (2 : Int))) (153 : Int))) fun v12 =>
 (lt (w64 (w64 ((153 : Int) * v12) + (2 : Int))) fun v13 =>
 (lt (w64 (w64 (r2 - v10) - w64 (Int.tdiv v13 (5 : Int)))) fun v14 =>
 (if decide (w64 (v12 + (3 : Int)) > (12 : Int)) = true then
 (lt (w64 (w64 (v12 + (3 : Int)) - (12 : Int))) fun v15 =>
 (lt (w64 (w64 (Int.tdiv v6 (365 : Int)) + (1 : Int))) fun v16 =>
 (lt (w64 (w64 ((400 : Int) * r1) + v16)) fun v17 =>
 K v17 v15 (w64 (v14 + (1 : Int))) true)))
 else
 (lt (w64 (w64 ((400 : Int) * r1) + w64 (Int.tdiv v6 (365 : Int)))) fun v18 =>
 K v18 (w64 (v12 + (3 : Int))) (w64 (v14 + (1 : Int))) true))))))))))))))))
def Xday_Date (a0 : Int) (K : (Int) → (Int) → (Int) → (Bool) → Prop) : Prop := Yday_Date Xnum_Div a0 K
def Jday_Date (X : (Int) → ((Int) → (Int) → (Int) → (Bool) → Prop) → Prop) : Inst := ⟨59, (.cons (.int .i64) .nil), .nil, (.cons (.int .i64) (.cons (.int .i64) (.cons (.int .i64) (.cons .bool .nil)))), .nil, fun x y K => X x.1 (fun u0 u1 u2 u3 => K (u0, (u1, (u2, (u3, ())))) ())⟩
def Iday_Date : Inst := Jday_Date Xday_Date
theorem Eday_Date (xnum_Div : (Int) → (Int) → ((Int) → (Int) → (Bool) → Prop) → Prop) (x : PL.T (.cons (.int .i64) .nil)) (y : PH.T .nil) (K : PL.T (.cons (.int .i64) (.cons (.int .i64) (.cons (.int .i64) (.cons .bool .nil)))) → PH.T .nil → Prop) : Yday_Date xnum_Div x.1 (fun u0 u1 u2 u3 => K (u0, (u1, (u2, (u3, ())))) ()) = bodyC (envP Tryz.prog 69 gives ⟨tabC [Jnum_Div xnum_Div], tabL []⟩) Tryz.f59 (Tryz.f59.body.getD .skip) (PL.enc (.cons (.int .i64) .nil) x) (PH.enc .nil y) (resK (.cons (.int .i64) (.cons (.int .i64) (.cons (.int .i64) (.cons .bool .nil)))) .nil K) := by kernel_rfl
theorem Iday_Date_ok : InstOk Tryz.prog G.1 Iday_Date := inst_ok (gives := gives) (is := [Inum_Div]) [] (okCons Inum_Div_ok okNil) 69 follows Tryz.func59 (by kernel_rfl) (fun x => by kernel_rfl) (fun x y K => Eday_Date Xnum_Div x y K)

/- epact/foot.year -/
def Yfoot_year (xnum_Div : (Int) → (Int) → ((Int) → (Int) → (Bool) → Prop) → Prop) (xday_Date : (Int) → ((Int) → (Int) → (Int) → (Bool) → Prop) → Prop) (a0 : Int) (K : (Int) → (Bool) → Prop) : Prop :=
 xnum_Div a0 (86400 : Int) (fun r1 r2 r3 =>
 xday_Date r1 (fun r4 r5 r6 r7 =>
 K r4 r7))
def Xfoot_year (a0 : Int) (K : (Int) → (Bool) → Prop) : Prop := Yfoot_year Xnum_Div Xday_Date a0 K
def Jfoot_year (X : (Int) → ((Int) → (Bool) → Prop) → Prop) : Inst := ⟨36, (.cons (.int .i64) .nil), .nil, (.cons (.int .i64) (.cons .bool .nil)), .nil, fun x y K => X x.1 (fun u0 u1 => K (u0, (u1, ())) ())⟩
def Ifoot_year : Inst := Jfoot_year Xfoot_year
theorem Efoot_year (xnum_Div : (Int) → (Int) → ((Int) → (Int) → (Bool) → Prop) → Prop) (xday_Date : (Int) → ((Int) → (Int) → (Int) → (Bool) → Prop) → Prop) (x : PL.T (.cons (.int .i64) .nil)) (y : PH.T .nil) (K : PL.T (.cons (.int .i64) (.cons .bool .nil)) → PH.T .nil → Prop) : Yfoot_year xnum_Div xday_Date x.1 (fun u0 u1 => K (u0, (u1, ())) ()) = bodyC (envP Tryz.prog 26 gives ⟨tabC [Jnum_Div xnum_Div, Jday_Date xday_Date], tabL []⟩) Tryz.f36 (Tryz.f36.body.getD .skip) (PL.enc (.cons (.int .i64) .nil) x) (PH.enc .nil y) (resK (.cons (.int .i64) (.cons .bool .nil)) .nil K) := by kernel_rfl
theorem Ifoot_year_ok : InstOk Tryz.prog G.1 Ifoot_year := inst_ok (gives := gives) (is := [Inum_Div, Iday_Date]) [] (okCons Inum_Div_ok (okCons Iday_Date_ok okNil)) 26 follows Tryz.func36 (by kernel_rfl) (fun x => by kernel_rfl) (fun x y K => Efoot_year Xnum_Div Xday_Date x y K)

/- epact/foot.Lookup -/
def Yfoot_Lookup (xnum_Add : (Int) → (Int) → ((Int) → (Bool) → Prop) → Prop) (xfoot_year : (Int) → ((Int) → (Bool) → Prop) → Prop) (xfoot_Span : (Int × Bool × ByteArray × Int × Bool × ByteArray × Bool × Int × Int × Int × Int × Int × Int × Int × Int × Int × Int × Unit) → (Int) → ((Int) → (Int) → (Bool) → Prop) → Prop) (a0 : Int × Bool × ByteArray × Int × Bool × ByteArray × Bool × Int × Int × Int × Int × Int × Int × Int × Int × Int × Int × Unit) (a1 : Int) (K : (Int × Bool × ByteArray × Unit) → Prop) : Prop :=
 xnum_Add a1 a0.1 (fun r2 r3 =>
 xfoot_year r2 (fun r4 r5 =>
 xfoot_Span a0 r4 (fun r6 r7 r8 =>
 (if (!r3) = true then
 K (a0.1, a0.2.1, a0.2.2.1, ())
 else
 (if (!r5) = true then
 K (a0.1, a0.2.1, a0.2.2.1, ())
 else
 (if (!r8) = true then
 K (a0.1, a0.2.1, a0.2.2.1, ())
 else
 (if decide (a1 ≥ r6) = true then
 (if decide (a1 < r7) = true then
 K (a0.2.2.2.1, a0.2.2.2.2.1, a0.2.2.2.2.2.1, ())
 else
 (if decide (r6 ≥ r7) = true then
 (if decide (a1 ≥ r6) = true then
 K (a0.2.2.2.1, a0.2.2.2.2.1, a0.2.2.2.2.2.1, ())
 else
 (if decide (a1 < r7) = true then
 K (a0.2.2.2.1, a0.2.2.2.2.1, a0.2.2.2.2.2.1, ())
 else
 K (a0.1, a0.2.1, a0.2.2.1, ())))
 else
 K (a0.1, a0.2.1, a0.2.2.1, ())))
 else
 (if decide (r6 ≥ r7) = true then
 (if decide (a1 ≥ r6) = true then
 K (a0.2.2.2.1, a0.2.2.2.2.1, a0.2.2.2.2.2.1, ())
 else
 (if decide (a1 < r7) = true then
 K (a0.2.2.2.1, a0.2.2.2.2.1, a0.2.2.2.2.2.1, ())
 else
 K (a0.1, a0.2.1, a0.2.2.1, ())))
 else
 K (a0.1, a0.2.1, a0.2.2.1, ())))))))))
def Xfoot_Lookup (a0 : Int × Bool × ByteArray × Int × Bool × ByteArray × Bool × Int × Int × Int × Int × Int × Int × Int × Int × Int × Int × Unit) (a1 : Int) (K : (Int × Bool × ByteArray × Unit) → Prop) : Prop := Yfoot_Lookup Xnum_Add Xfoot_year Xfoot_Span a0 a1 K
def Jfoot_Lookup (X : (Int × Bool × ByteArray × Int × Bool × ByteArray × Bool × Int × Int × Int × Int × Int × Int × Int × Int × Int × Int × Unit) → (Int) → ((Int × Bool × ByteArray × Unit) → Prop) → Prop) : Inst := ⟨13, (.cons (.agg (.cons (.int .i64) (.cons .bool (.cons .str (.cons (.int .i64) (.cons .bool (.cons .str (.cons .bool (.cons (.int .i64) (.cons (.int .i64) (.cons (.int .i64) (.cons (.int .i64) (.cons (.int .i64) (.cons (.int .i64) (.cons (.int .i64) (.cons (.int .i64) (.cons (.int .i64) (.cons (.int .i64) .nil)))))))))))))))))) (.cons (.int .i64) .nil)), .nil, (.cons (.agg (.cons (.int .i64) (.cons .bool (.cons .str .nil)))) .nil), .nil, fun x y K => X x.1 x.2.1 (fun u0 => K (u0, ()) ())⟩
def Ifoot_Lookup : Inst := Jfoot_Lookup Xfoot_Lookup
theorem Efoot_Lookup (xnum_Add : (Int) → (Int) → ((Int) → (Bool) → Prop) → Prop) (xfoot_year : (Int) → ((Int) → (Bool) → Prop) → Prop) (xfoot_Span : (Int × Bool × ByteArray × Int × Bool × ByteArray × Bool × Int × Int × Int × Int × Int × Int × Int × Int × Int × Int × Unit) → (Int) → ((Int) → (Int) → (Bool) → Prop) → Prop) (x : PL.T (.cons (.agg (.cons (.int .i64) (.cons .bool (.cons .str (.cons (.int .i64) (.cons .bool (.cons .str (.cons .bool (.cons (.int .i64) (.cons (.int .i64) (.cons (.int .i64) (.cons (.int .i64) (.cons (.int .i64) (.cons (.int .i64) (.cons (.int .i64) (.cons (.int .i64) (.cons (.int .i64) (.cons (.int .i64) .nil)))))))))))))))))) (.cons (.int .i64) .nil))) (y : PH.T .nil) (K : PL.T (.cons (.agg (.cons (.int .i64) (.cons .bool (.cons .str .nil)))) .nil) → PH.T .nil → Prop) : Yfoot_Lookup xnum_Add xfoot_year xfoot_Span x.1 x.2.1 (fun u0 => K (u0, ()) ()) = bodyC (envP Tryz.prog 71 gives ⟨tabC [Jnum_Add xnum_Add, Jfoot_year xfoot_year, Jfoot_Span xfoot_Span], tabL []⟩) Tryz.f13 (Tryz.f13.body.getD .skip) (PL.enc (.cons (.agg (.cons (.int .i64) (.cons .bool (.cons .str (.cons (.int .i64) (.cons .bool (.cons .str (.cons .bool (.cons (.int .i64) (.cons (.int .i64) (.cons (.int .i64) (.cons (.int .i64) (.cons (.int .i64) (.cons (.int .i64) (.cons (.int .i64) (.cons (.int .i64) (.cons (.int .i64) (.cons (.int .i64) .nil)))))))))))))))))) (.cons (.int .i64) .nil)) x) (PH.enc .nil y) (resK (.cons (.agg (.cons (.int .i64) (.cons .bool (.cons .str .nil)))) .nil) .nil K) := by kernel_rfl
theorem Ifoot_Lookup_ok : InstOk Tryz.prog G.1 Ifoot_Lookup := inst_ok (gives := gives) (is := [Inum_Add, Ifoot_year, Ifoot_Span]) [] (okCons Inum_Add_ok (okCons Ifoot_year_ok (okCons Ifoot_Span_ok okNil))) 71 follows Tryz.func13 (by kernel_rfl) (fun x => by kernel_rfl) (fun x y K => Efoot_Lookup Xnum_Add Xfoot_year Xfoot_Span x y K)

/- epact/epactlaw18.small -/
def Yepactlaw18_small (xfoot_Parse : (ByteArray) → ((Int × Bool × ByteArray × Int × Bool × ByteArray × Bool × Int × Int × Int × Int × Int × Int × Int × Int × Int × Int × Unit) → (Bool) → Prop) → Prop) (xfoot_Text : (Int × Bool × ByteArray × Int × Bool × ByteArray × Bool × Int × Int × Int × Int × Int × Int × Int × Int × Int × Int × Unit) → ((ByteArray) → (Bool) → Prop) → Prop) (xfoot_Span : (Int × Bool × ByteArray × Int × Bool × ByteArray × Bool × Int × Int × Int × Int × Int × Int × Int × Int × Int × Int × Unit) → (Int) → ((Int) → (Int) → (Bool) → Prop) → Prop) (xfoot_Lookup : (Int × Bool × ByteArray × Int × Bool × ByteArray × Bool × Int × Int × Int × Int × Int × Int × Int × Int × Int × Int × Unit) → (Int) → ((Int × Bool × ByteArray × Unit) → Prop) → Prop) (xfoot_Right : (Int × Bool × ByteArray × Int × Bool × ByteArray × Bool × Int × Int × Int × Int × Int × Int × Int × Int × Int × Int × Unit) → ((Bool) → Prop) → Prop) (K : (Bool) → Prop) : Prop :=
 xfoot_Parse (ByteArray.mk #[(69 : UInt8), (83 : UInt8), (84 : UInt8), (53 : UInt8), (69 : UInt8), (68 : UInt8), (84 : UInt8), (44 : UInt8), (77 : UInt8), (51 : UInt8), (46 : UInt8), (50 : UInt8), (46 : UInt8), (48 : UInt8), (44 : UInt8), (77 : UInt8), (49 : UInt8), (49 : UInt8), (46 : UInt8), (49 : UInt8), (46 : UInt8), (48 : UInt8)]) (fun r0 r1 =>
 xfoot_Text ((-18000 : Int), false, ByteArray.mk #[(69 : UInt8), (83 : UInt8), (84 : UInt8)], (-14400 : Int), true, ByteArray.mk #[(69 : UInt8), (68 : UInt8), (84 : UInt8)], true, (0 : Int), (3 : Int), (2 : Int), (0 : Int), (7200 : Int), (0 : Int), (11 : Int), (1 : Int), (0 : Int), (7200 : Int), ()) (fun r2 r3 =>
 xfoot_Parse (ByteArray.mk #[(60 : UInt8), (43 : UInt8), (48 : UInt8), (53 : UInt8), (51 : UInt8), (48 : UInt8), (62 : UInt8), (45 : UInt8), (53 : UInt8), (58 : UInt8), (51 : UInt8), (48 : UInt8)]) (fun r4 r5 =>
 xfoot_Parse (ByteArray.mk #[(69 : UInt8), (83 : UInt8), (84 : UInt8), (53 : UInt8), (69 : UInt8), (68 : UInt8), (84 : UInt8)]) (fun r6 r7 =>
 xfoot_Parse (ByteArray.mk #[(69 : UInt8), (83 : UInt8), (84 : UInt8)]) (fun r8 r9 =>
 xfoot_Parse (ByteArray.mk #[(69 : UInt8), (83 : UInt8), (84 : UInt8), (50 : UInt8), (53 : UInt8)]) (fun r10 r11 =>
 xfoot_Parse (ByteArray.mk #[(60 : UInt8), (45 : UInt8), (48 : UInt8), (51 : UInt8), (62 : UInt8), (51 : UInt8), (60 : UInt8), (45 : UInt8), (48 : UInt8), (50 : UInt8), (62 : UInt8), (44 : UInt8), (77 : UInt8), (51 : UInt8), (46 : UInt8), (53 : UInt8), (46 : UInt8), (48 : UInt8), (47 : UInt8), (45 : UInt8), (50 : UInt8), (44 : UInt8), (77 : UInt8), (49 : UInt8), (48 : UInt8), (46 : UInt8), (53 : UInt8), (46 : UInt8), (48 : UInt8), (47 : UInt8), (45 : UInt8), (49 : UInt8)]) (fun r12 r13 =>
 xfoot_Span ((-18000 : Int), false, ByteArray.mk #[(69 : UInt8), (83 : UInt8), (84 : UInt8)], (-14400 : Int), true, ByteArray.mk #[(69 : UInt8), (68 : UInt8), (84 : UInt8)], true, (0 : Int), (3 : Int), (2 : Int), (0 : Int), (7200 : Int), (0 : Int), (11 : Int), (1 : Int), (0 : Int), (7200 : Int), ()) (2024 : Int) (fun r14 r15 r16 =>
 (if r1 = true then
 (lt (r0.1 == (-18000 : Int) && (r0.2.1 == false && (ByteArray.toList r0.2.2.1 == ByteArray.toList (ByteArray.mk #[(69 : UInt8), (83 : UInt8), (84 : UInt8)]) && true)) && (r0.2.2.2.1 == (-14400 : Int) && (r0.2.2.2.2.1 == true && (ByteArray.toList r0.2.2.2.2.2.1 == ByteArray.toList (ByteArray.mk #[(69 : UInt8), (68 : UInt8), (84 : UInt8)]) && true)) && (r0.2.2.2.2.2.2.1 == true && (r0.2.2.2.2.2.2.2.1 == (0 : Int) && (r0.2.2.2.2.2.2.2.2.1 == (3 : Int) && (r0.2.2.2.2.2.2.2.2.2.1 == (2 : Int) && (r0.2.2.2.2.2.2.2.2.2.2.1 == (0 : Int) && (r0.2.2.2.2.2.2.2.2.2.2.2.1 == (7200 : Int) && true)))) && (r0.2.2.2.2.2.2.2.2.2.2.2.2.1 == (0 : Int) && (r0.2.2.2.2.2.2.2.2.2.2.2.2.2.1 == (11 : Int) && (r0.2.2.2.2.2.2.2.2.2.2.2.2.2.2.1 == (1 : Int) && (r0.2.2.2.2.2.2.2.2.2.2.2.2.2.2.2.1 == (0 : Int) && (r0.2.2.2.2.2.2.2.2.2.2.2.2.2.2.2.2.1 == (7200 : Int) && true)))) && true))))) fun v17 =>
 (if v17 = true then
 (if r3 = true then
 (lt (ByteArray.toList r2 == ByteArray.toList (ByteArray.mk #[(69 : UInt8), (83 : UInt8), (84 : UInt8), (53 : UInt8), (69 : UInt8), (68 : UInt8), (84 : UInt8), (44 : UInt8), (77 : UInt8), (51 : UInt8), (46 : UInt8), (50 : UInt8), (46 : UInt8), (48 : UInt8), (44 : UInt8), (77 : UInt8), (49 : UInt8), (49 : UInt8), (46 : UInt8), (49 : UInt8), (46 : UInt8), (48 : UInt8)])) fun v18 =>
 (if v18 = true then
 (if r5 = true then
 (lt (r4.1 == (19800 : Int) && (r4.2.1 == false && (ByteArray.toList r4.2.2.1 == ByteArray.toList (ByteArray.mk #[(43 : UInt8), (48 : UInt8), (53 : UInt8), (51 : UInt8), (48 : UInt8)]) && true)) && (r4.2.2.2.1 == (0 : Int) && (r4.2.2.2.2.1 == false && (ByteArray.toList r4.2.2.2.2.2.1 == ByteArray.toList (ByteArray.mk #[]) && true)) && (r4.2.2.2.2.2.2.1 == false && (r4.2.2.2.2.2.2.2.1 == (0 : Int) && (r4.2.2.2.2.2.2.2.2.1 == (0 : Int) && (r4.2.2.2.2.2.2.2.2.2.1 == (0 : Int) && (r4.2.2.2.2.2.2.2.2.2.2.1 == (0 : Int) && (r4.2.2.2.2.2.2.2.2.2.2.2.1 == (0 : Int) && true)))) && (r4.2.2.2.2.2.2.2.2.2.2.2.2.1 == (0 : Int) && (r4.2.2.2.2.2.2.2.2.2.2.2.2.2.1 == (0 : Int) && (r4.2.2.2.2.2.2.2.2.2.2.2.2.2.2.1 == (0 : Int) && (r4.2.2.2.2.2.2.2.2.2.2.2.2.2.2.2.1 == (0 : Int) && (r4.2.2.2.2.2.2.2.2.2.2.2.2.2.2.2.2.1 == (0 : Int) && true)))) && true))))) fun v19 =>
 (if v19 = true then
 (if (!r7) = true then
 (if (!r9) = true then
 (if (!r11) = true then
 (if r13 = true then
 (if (r12.2.2.2.1 == (-7200 : Int)) = true then
 (if (r12.2.2.2.2.2.2.2.2.2.2.2.1 == (-7200 : Int)) = true then
 (if r16 = true then
 (if (r14 == (1710054000 : Int)) = true then
 (if (r15 == (1730613600 : Int)) = true then
 xfoot_Lookup ((-18000 : Int), false, ByteArray.mk #[(69 : UInt8), (83 : UInt8), (84 : UInt8)], (-14400 : Int), true, ByteArray.mk #[(69 : UInt8), (68 : UInt8), (84 : UInt8)], true, (0 : Int), (3 : Int), (2 : Int), (0 : Int), (7200 : Int), (0 : Int), (11 : Int), (1 : Int), (0 : Int), (7200 : Int), ()) (1710053999 : Int) (fun r20 =>
 (lt (r20.1 == (-18000 : Int) && (r20.2.1 == false && (ByteArray.toList r20.2.2.1 == ByteArray.toList (ByteArray.mk #[(69 : UInt8), (83 : UInt8), (84 : UInt8)]) && true))) fun v21 =>
 (if v21 = true then
 xfoot_Lookup ((-18000 : Int), false, ByteArray.mk #[(69 : UInt8), (83 : UInt8), (84 : UInt8)], (-14400 : Int), true, ByteArray.mk #[(69 : UInt8), (68 : UInt8), (84 : UInt8)], true, (0 : Int), (3 : Int), (2 : Int), (0 : Int), (7200 : Int), (0 : Int), (11 : Int), (1 : Int), (0 : Int), (7200 : Int), ()) (1710054000 : Int) (fun r22 =>
 (lt (r22.1 == (-14400 : Int) && (r22.2.1 == true && (ByteArray.toList r22.2.2.1 == ByteArray.toList (ByteArray.mk #[(69 : UInt8), (68 : UInt8), (84 : UInt8)]) && true))) fun v23 =>
 (if v23 = true then
 xfoot_Lookup ((-18000 : Int), false, ByteArray.mk #[(69 : UInt8), (83 : UInt8), (84 : UInt8)], (-14400 : Int), true, ByteArray.mk #[(69 : UInt8), (68 : UInt8), (84 : UInt8)], true, (0 : Int), (3 : Int), (2 : Int), (0 : Int), (7200 : Int), (0 : Int), (11 : Int), (1 : Int), (0 : Int), (7200 : Int), ()) (1730613599 : Int) (fun r24 =>
 (lt (r24.1 == (-14400 : Int) && (r24.2.1 == true && (ByteArray.toList r24.2.2.1 == ByteArray.toList (ByteArray.mk #[(69 : UInt8), (68 : UInt8), (84 : UInt8)]) && true))) fun v25 =>
 (if v25 = true then
 xfoot_Lookup ((-18000 : Int), false, ByteArray.mk #[(69 : UInt8), (83 : UInt8), (84 : UInt8)], (-14400 : Int), true, ByteArray.mk #[(69 : UInt8), (68 : UInt8), (84 : UInt8)], true, (0 : Int), (3 : Int), (2 : Int), (0 : Int), (7200 : Int), (0 : Int), (11 : Int), (1 : Int), (0 : Int), (7200 : Int), ()) (1730613600 : Int) (fun r26 =>
 (lt (r26.1 == (-18000 : Int) && (r26.2.1 == false && (ByteArray.toList r26.2.2.1 == ByteArray.toList (ByteArray.mk #[(69 : UInt8), (83 : UInt8), (84 : UInt8)]) && true))) fun v27 =>
 (if v27 = true then
 xfoot_Lookup ((-18000 : Int), false, ByteArray.mk #[(69 : UInt8), (83 : UInt8), (84 : UInt8)], (-14400 : Int), true, ByteArray.mk #[(69 : UInt8), (68 : UInt8), (84 : UInt8)], true, (0 : Int), (11 : Int), (1 : Int), (0 : Int), (7200 : Int), (0 : Int), (3 : Int), (2 : Int), (0 : Int), (7200 : Int), ()) (1704085200 : Int) (fun r28 =>
 (lt (r28.1 == (-14400 : Int) && (r28.2.1 == true && (ByteArray.toList r28.2.2.1 == ByteArray.toList (ByteArray.mk #[(69 : UInt8), (68 : UInt8), (84 : UInt8)]) && true))) fun v29 =>
 (if v29 = true then
 xfoot_Lookup r4 (5 : Int) (fun r30 =>
 (lt (r30.1 == r4.1 && (r30.2.1 == r4.2.1 && (ByteArray.toList r30.2.2.1 == ByteArray.toList r4.2.2.1 && true))) fun v31 =>
 (if v31 = true then
 xfoot_Right ((-18000 : Int), false, ByteArray.mk #[(69 : UInt8), (83 : UInt8), (84 : UInt8)], (-14400 : Int), true, ByteArray.mk #[(69 : UInt8), (68 : UInt8), (84 : UInt8)], true, (0 : Int), (3 : Int), (2 : Int), (0 : Int), (7200 : Int), (0 : Int), (11 : Int), (1 : Int), (0 : Int), (7200 : Int), ()) (fun r32 =>
 (if r32 = true then
 xfoot_Right ((0 : Int), false, ByteArray.mk #[], (0 : Int), false, ByteArray.mk #[], false, (0 : Int), (0 : Int), (0 : Int), (0 : Int), (0 : Int), (0 : Int), (0 : Int), (0 : Int), (0 : Int), (0 : Int), ()) (fun r33 =>
 K !r33)
 else
 K false))
 else
 K false)))
 else
 K false)))
 else
 K false)))
 else
 K false)))
 else
 K false)))
 else
 K false)))
 else
 K false)
 else
 K false)
 else
 K false)
 else
 K false)
 else
 K false)
 else
 K false)
 else
 K false)
 else
 K false)
 else
 K false)
 else
 K false))
 else
 K false)
 else
 K false))
 else
 K false)
 else
 K false))
 else
 K false)))))))))
def Xepactlaw18_small (K : (Bool) → Prop) : Prop := Yepactlaw18_small Xfoot_Parse Xfoot_Text Xfoot_Span Xfoot_Lookup Xfoot_Right K
def Jepactlaw18_small (X : ((Bool) → Prop) → Prop) : Inst := ⟨4, .nil, .nil, (.cons .bool .nil), .nil, fun x y K => X (fun u0 => K (u0, ()) ())⟩
def Iepactlaw18_small : Inst := Jepactlaw18_small Xepactlaw18_small
theorem Eepactlaw18_small (xfoot_Parse : (ByteArray) → ((Int × Bool × ByteArray × Int × Bool × ByteArray × Bool × Int × Int × Int × Int × Int × Int × Int × Int × Int × Int × Unit) → (Bool) → Prop) → Prop) (xfoot_Text : (Int × Bool × ByteArray × Int × Bool × ByteArray × Bool × Int × Int × Int × Int × Int × Int × Int × Int × Int × Int × Unit) → ((ByteArray) → (Bool) → Prop) → Prop) (xfoot_Span : (Int × Bool × ByteArray × Int × Bool × ByteArray × Bool × Int × Int × Int × Int × Int × Int × Int × Int × Int × Int × Unit) → (Int) → ((Int) → (Int) → (Bool) → Prop) → Prop) (xfoot_Lookup : (Int × Bool × ByteArray × Int × Bool × ByteArray × Bool × Int × Int × Int × Int × Int × Int × Int × Int × Int × Int × Unit) → (Int) → ((Int × Bool × ByteArray × Unit) → Prop) → Prop) (xfoot_Right : (Int × Bool × ByteArray × Int × Bool × ByteArray × Bool × Int × Int × Int × Int × Int × Int × Int × Int × Int × Int × Unit) → ((Bool) → Prop) → Prop) (x : PL.T .nil) (y : PH.T .nil) (K : PL.T (.cons .bool .nil) → PH.T .nil → Prop) : Yepactlaw18_small xfoot_Parse xfoot_Text xfoot_Span xfoot_Lookup xfoot_Right (fun u0 => K (u0, ()) ()) = bodyC (envP Tryz.prog 178 gives ⟨tabC [Jfoot_Parse xfoot_Parse, Jfoot_Text xfoot_Text, Jfoot_Span xfoot_Span, Jfoot_Lookup xfoot_Lookup, Jfoot_Right xfoot_Right], tabL []⟩) Tryz.f4 (Tryz.f4.body.getD .skip) (PL.enc .nil x) (PH.enc .nil y) (resK (.cons .bool .nil) .nil K) := by kernel_rfl
theorem Iepactlaw18_small_ok : InstOk Tryz.prog G.1 Iepactlaw18_small := inst_ok (gives := gives) (is := [Ifoot_Parse, Ifoot_Text, Ifoot_Span, Ifoot_Lookup, Ifoot_Right]) [] (okCons Ifoot_Parse_ok (okCons Ifoot_Text_ok (okCons Ifoot_Span_ok (okCons Ifoot_Lookup_ok (okCons Ifoot_Right_ok okNil))))) 178 follows Tryz.func4 (by kernel_rfl) (fun x => by kernel_rfl) (fun x y K => Eepactlaw18_small Xfoot_Parse Xfoot_Text Xfoot_Span Xfoot_Lookup Xfoot_Right x y K)

/- epact/epactref14.Right -/
def Lepactref14_Right_0 (K : (Bool) → Prop) : ((ByteArray × Bool × Int × Unit) × (Unit) → Prop) → (ByteArray × Bool × Int × Unit) × (Unit) → Prop := fun k1 x2 =>
 (if decide (x2.1.2.2.1 < (↑(ByteArray.size x2.1.1) : Int)) = true then
 (if (0 : Int) ≤ x2.1.2.2.1 ∧ x2.1.2.2.1 < (↑(ByteArray.size x2.1.1) : Int) then
 (if decide (Eng.bAt x2.1.1 (Int.toNat x2.1.2.2.1) ≥ (97 : Int)) = true then
 (if decide (Eng.bAt x2.1.1 (Int.toNat x2.1.2.2.1) ≤ (122 : Int)) = true then
 k1 ((x2.1.1, x2.1.2.1, w64 (x2.1.2.2.1 + (1 : Int)), ()), ())
 else
 (if decide (Eng.bAt x2.1.1 (Int.toNat x2.1.2.2.1) ≥ (65 : Int)) = true then
 (if (!decide (Eng.bAt x2.1.1 (Int.toNat x2.1.2.2.1) ≤ (90 : Int))) = true then
 (if decide (Eng.bAt x2.1.1 (Int.toNat x2.1.2.2.1) < (48 : Int)) = true then
 (if (Eng.bAt x2.1.1 (Int.toNat x2.1.2.2.1) != (43 : Int)) = true then
 (if (Eng.bAt x2.1.1 (Int.toNat x2.1.2.2.1) != (45 : Int)) = true then
 K false
 else
 k1 ((x2.1.1, x2.1.2.1, w64 (x2.1.2.2.1 + (1 : Int)), ()), ()))
 else
 k1 ((x2.1.1, x2.1.2.1, w64 (x2.1.2.2.1 + (1 : Int)), ()), ()))
 else
 (if decide (Eng.bAt x2.1.1 (Int.toNat x2.1.2.2.1) > (57 : Int)) = true then
 (if (Eng.bAt x2.1.1 (Int.toNat x2.1.2.2.1) != (43 : Int)) = true then
 (if (Eng.bAt x2.1.1 (Int.toNat x2.1.2.2.1) != (45 : Int)) = true then
 K false
 else
 k1 ((x2.1.1, x2.1.2.1, w64 (x2.1.2.2.1 + (1 : Int)), ()), ()))
 else
 k1 ((x2.1.1, x2.1.2.1, w64 (x2.1.2.2.1 + (1 : Int)), ()), ()))
 else
 k1 ((x2.1.1, x2.1.2.1, w64 (x2.1.2.2.1 + (1 : Int)), ()), ())))
 else
 k1 ((x2.1.1, x2.1.2.1, w64 (x2.1.2.2.1 + (1 : Int)), ()), ()))
 else
 (if decide (Eng.bAt x2.1.1 (Int.toNat x2.1.2.2.1) < (48 : Int)) = true then
 (if (Eng.bAt x2.1.1 (Int.toNat x2.1.2.2.1) != (43 : Int)) = true then
 (if (Eng.bAt x2.1.1 (Int.toNat x2.1.2.2.1) != (45 : Int)) = true then
 K false
 else
 k1 ((x2.1.1, x2.1.2.1, w64 (x2.1.2.2.1 + (1 : Int)), ()), ()))
 else
 k1 ((x2.1.1, x2.1.2.1, w64 (x2.1.2.2.1 + (1 : Int)), ()), ()))
 else
 (if decide (Eng.bAt x2.1.1 (Int.toNat x2.1.2.2.1) > (57 : Int)) = true then
 (if (Eng.bAt x2.1.1 (Int.toNat x2.1.2.2.1) != (43 : Int)) = true then
 (if (Eng.bAt x2.1.1 (Int.toNat x2.1.2.2.1) != (45 : Int)) = true then
 K false
 else
 k1 ((x2.1.1, x2.1.2.1, w64 (x2.1.2.2.1 + (1 : Int)), ()), ()))
 else
 k1 ((x2.1.1, x2.1.2.1, w64 (x2.1.2.2.1 + (1 : Int)), ()), ()))
 else
 k1 ((x2.1.1, x2.1.2.1, w64 (x2.1.2.2.1 + (1 : Int)), ()), ())))))
 else
 (if decide (Eng.bAt x2.1.1 (Int.toNat x2.1.2.2.1) ≥ (65 : Int)) = true then
 (if (!decide (Eng.bAt x2.1.1 (Int.toNat x2.1.2.2.1) ≤ (90 : Int))) = true then
 (if decide (Eng.bAt x2.1.1 (Int.toNat x2.1.2.2.1) < (48 : Int)) = true then
 (if (Eng.bAt x2.1.1 (Int.toNat x2.1.2.2.1) != (43 : Int)) = true then
 (if (Eng.bAt x2.1.1 (Int.toNat x2.1.2.2.1) != (45 : Int)) = true then
 K false
 else
 k1 ((x2.1.1, x2.1.2.1, w64 (x2.1.2.2.1 + (1 : Int)), ()), ()))
 else
 k1 ((x2.1.1, x2.1.2.1, w64 (x2.1.2.2.1 + (1 : Int)), ()), ()))
 else
 (if decide (Eng.bAt x2.1.1 (Int.toNat x2.1.2.2.1) > (57 : Int)) = true then
 (if (Eng.bAt x2.1.1 (Int.toNat x2.1.2.2.1) != (43 : Int)) = true then
 (if (Eng.bAt x2.1.1 (Int.toNat x2.1.2.2.1) != (45 : Int)) = true then
 K false
 else
 k1 ((x2.1.1, x2.1.2.1, w64 (x2.1.2.2.1 + (1 : Int)), ()), ()))
 else
 k1 ((x2.1.1, x2.1.2.1, w64 (x2.1.2.2.1 + (1 : Int)), ()), ()))
 else
 k1 ((x2.1.1, x2.1.2.1, w64 (x2.1.2.2.1 + (1 : Int)), ()), ())))
 else
 k1 ((x2.1.1, x2.1.2.1, w64 (x2.1.2.2.1 + (1 : Int)), ()), ()))
 else
 (if decide (Eng.bAt x2.1.1 (Int.toNat x2.1.2.2.1) < (48 : Int)) = true then
 (if (Eng.bAt x2.1.1 (Int.toNat x2.1.2.2.1) != (43 : Int)) = true then
 (if (Eng.bAt x2.1.1 (Int.toNat x2.1.2.2.1) != (45 : Int)) = true then
 K false
 else
 k1 ((x2.1.1, x2.1.2.1, w64 (x2.1.2.2.1 + (1 : Int)), ()), ()))
 else
 k1 ((x2.1.1, x2.1.2.1, w64 (x2.1.2.2.1 + (1 : Int)), ()), ()))
 else
 (if decide (Eng.bAt x2.1.1 (Int.toNat x2.1.2.2.1) > (57 : Int)) = true then
 (if (Eng.bAt x2.1.1 (Int.toNat x2.1.2.2.1) != (43 : Int)) = true then
 (if (Eng.bAt x2.1.1 (Int.toNat x2.1.2.2.1) != (45 : Int)) = true then
 K false
 else
 k1 ((x2.1.1, x2.1.2.1, w64 (x2.1.2.2.1 + (1 : Int)), ()), ()))
 else
 k1 ((x2.1.1, x2.1.2.1, w64 (x2.1.2.2.1 + (1 : Int)), ()), ()))
 else
 k1 ((x2.1.1, x2.1.2.1, w64 (x2.1.2.2.1 + (1 : Int)), ()), ())))))
 else
 False)
 else
 (if decide ((↑(ByteArray.size x2.1.1) : Int) ≥ (3 : Int)) = true then
 K (decide ((↑(ByteArray.size x2.1.1) : Int) ≤ (16 : Int)))
 else
 K false))
def Lepactref14_Right_0p : Lp := ⟨13, [.trim 13], (.cons 0 .str (.cons 2 .bool (.cons 3 (.int .i64) .nil))), .nil, 0⟩
def Yepactref14_Right (a0 : ByteArray) (K : (Bool) → Prop) : Prop :=
 lp (Lepactref14_Right_0 K) ((a0, false, (0 : Int), ()), ())
def Xepactref14_Right (a0 : ByteArray) (K : (Bool) → Prop) : Prop := Yepactref14_Right a0 K
def Jepactref14_Right (X : (ByteArray) → ((Bool) → Prop) → Prop) : Inst := ⟨52, (.cons .str .nil), .nil, (.cons .bool .nil), .nil, fun x y K => X x.1 (fun u0 => K (u0, ()) ())⟩
def Iepactref14_Right : Inst := Jepactref14_Right Xepactref14_Right
theorem Eepactref14_Right (x : PL.T (.cons .str .nil)) (y : PH.T .nil) (K : PL.T (.cons .bool .nil) → PH.T .nil → Prop) : Yepactref14_Right x.1 (fun u0 => K (u0, ()) ()) = bodyC (envP Tryz.prog 55 gives ⟨tabC [], tabL [Lepactref14_Right_0p]⟩) Tryz.f52 (Tryz.f52.body.getD .skip) (PL.enc (.cons .str .nil) x) (PH.enc .nil y) (resK (.cons .bool .nil) .nil K) := by kernel_rfl
theorem Iepactref14_Right_ok : InstOk Tryz.prog G.1 Iepactref14_Right := inst_ok (gives := gives) (is := []) [Lepactref14_Right_0p] okNil 55 follows Tryz.func52 (by kernel_rfl) (fun x => by kernel_rfl) (fun x y K => Eepactref14_Right x y K)

/- epact/epactref18.kind -/
def Yepactref18_kind (xepactref14_Right : (ByteArray) → ((Bool) → Prop) → Prop) (a0 : Int × Bool × ByteArray × Unit) (a1 : Bool) (K : (Bool) → Prop) : Prop :=
 xepactref14_Right a0.2.2.1 (fun r2 =>
 (if r2 = true then
 (if (a0.2.1 == a1) = true then
 (if decide (a0.1 ≥ (-89999 : Int)) = true then
 K (decide (a0.1 ≤ (89999 : Int)))
 else
 K false)
 else
 K false)
 else
 K false))
def Xepactref18_kind (a0 : Int × Bool × ByteArray × Unit) (a1 : Bool) (K : (Bool) → Prop) : Prop := Yepactref18_kind Xepactref14_Right a0 a1 K
def Jepactref18_kind (X : (Int × Bool × ByteArray × Unit) → (Bool) → ((Bool) → Prop) → Prop) : Inst := ⟨33, (.cons (.agg (.cons (.int .i64) (.cons .bool (.cons .str .nil)))) (.cons .bool .nil)), .nil, (.cons .bool .nil), .nil, fun x y K => X x.1 x.2.1 (fun u0 => K (u0, ()) ())⟩
def Iepactref18_kind : Inst := Jepactref18_kind Xepactref18_kind
theorem Eepactref18_kind (xepactref14_Right : (ByteArray) → ((Bool) → Prop) → Prop) (x : PL.T (.cons (.agg (.cons (.int .i64) (.cons .bool (.cons .str .nil)))) (.cons .bool .nil))) (y : PH.T .nil) (K : PL.T (.cons .bool .nil) → PH.T .nil → Prop) : Yepactref18_kind xepactref14_Right x.1 x.2.1 (fun u0 => K (u0, ()) ()) = bodyC (envP Tryz.prog 26 gives ⟨tabC [Jepactref14_Right xepactref14_Right], tabL []⟩) Tryz.f33 (Tryz.f33.body.getD .skip) (PL.enc (.cons (.agg (.cons (.int .i64) (.cons .bool (.cons .str .nil)))) (.cons .bool .nil)) x) (PH.enc .nil y) (resK (.cons .bool .nil) .nil K) := by kernel_rfl
theorem Iepactref18_kind_ok : InstOk Tryz.prog G.1 Iepactref18_kind := inst_ok (gives := gives) (is := [Iepactref14_Right]) [] (okCons Iepactref14_Right_ok okNil) 26 follows Tryz.func33 (by kernel_rfl) (fun x => by kernel_rfl) (fun x y K => Eepactref18_kind Xepactref14_Right x y K)

/- epact/epactref17.Right -/
def Yepactref17_Right (a0 : Int × Int × Int × Int × Int × Unit) (K : (Bool) → Prop) : Prop :=
 (if decide (a0.2.2.2.2.1 < (-604799 : Int)) = true then
 K false
 else
 (if decide (a0.2.2.2.2.1 > (604799 : Int)) = true then
 K false
 else
 (if (a0.1 == (0 : Int)) = true then
 (if decide (a0.2.1 ≥ (1 : Int)) = true then
 (if decide (a0.2.1 ≤ (12 : Int)) = true then
 (if decide (a0.2.2.1 ≥ (1 : Int)) = true then
 (if decide (a0.2.2.1 ≤ (5 : Int)) = true then
 (if decide (a0.2.2.2.1 ≥ (0 : Int)) = true then
 K (decide (a0.2.2.2.1 ≤ (6 : Int)))
 else
 K false)
 else
 K false)
 else
 K false)
 else
 K false)
 else
 K false)
 else
 (if (a0.1 == (1 : Int)) = true then
 (if decide (a0.2.1 ≥ (1 : Int)) = true then
 (if decide (a0.2.1 ≤ (365 : Int)) = true then
 (if (a0.2.2.1 == (0 : Int)) = true then
 K (a0.2.2.2.1 == (0 : Int))
 else
 K false)
 else
 K false)
 else
 K false)
 else
 (if (a0.1 == (2 : Int)) = true then
 (if decide (a0.2.1 ≥ (0 : Int)) = true then
 (if decide (a0.2.1 ≤ (365 : Int)) = true then
 (if (a0.2.2.1 == (0 : Int)) = true then
 K (a0.2.2.2.1 == (0 : Int))
 else
 K false)
 else
 K false)
 else
 K false)
 else
 K false)))))
def Xepactref17_Right (a0 : Int × Int × Int × Int × Int × Unit) (K : (Bool) → Prop) : Prop := Yepactref17_Right a0 K
def Jepactref17_Right (X : (Int × Int × Int × Int × Int × Unit) → ((Bool) → Prop) → Prop) : Inst := ⟨34, (.cons (.agg (.cons (.int .i64) (.cons (.int .i64) (.cons (.int .i64) (.cons (.int .i64) (.cons (.int .i64) .nil)))))) .nil), .nil, (.cons .bool .nil), .nil, fun x y K => X x.1 (fun u0 => K (u0, ()) ())⟩
def Iepactref17_Right : Inst := Jepactref17_Right Xepactref17_Right
theorem Eepactref17_Right (x : PL.T (.cons (.agg (.cons (.int .i64) (.cons (.int .i64) (.cons (.int .i64) (.cons (.int .i64) (.cons (.int .i64) .nil)))))) .nil)) (y : PH.T .nil) (K : PL.T (.cons .bool .nil) → PH.T .nil → Prop) : Yepactref17_Right x.1 (fun u0 => K (u0, ()) ()) = bodyC (envP Tryz.prog 83 gives ⟨tabC [], tabL []⟩) Tryz.f34 (Tryz.f34.body.getD .skip) (PL.enc (.cons (.agg (.cons (.int .i64) (.cons (.int .i64) (.cons (.int .i64) (.cons (.int .i64) (.cons (.int .i64) .nil)))))) .nil) x) (PH.enc .nil y) (resK (.cons .bool .nil) .nil K) := by kernel_rfl
theorem Iepactref17_Right_ok : InstOk Tryz.prog G.1 Iepactref17_Right := inst_ok (gives := gives) (is := []) [] okNil 83 follows Tryz.func34 (by kernel_rfl) (fun x => by kernel_rfl) (fun x y K => Eepactref17_Right x y K)

/- epact/epactref18.Right -/
def Yepactref18_Right (xepactref18_kind : (Int × Bool × ByteArray × Unit) → (Bool) → ((Bool) → Prop) → Prop) (xepactref17_Right : (Int × Int × Int × Int × Int × Unit) → ((Bool) → Prop) → Prop) (a0 : Int × Bool × ByteArray × Int × Bool × ByteArray × Bool × Int × Int × Int × Int × Int × Int × Int × Int × Int × Int × Unit) (K : (Bool) → Prop) : Prop :=
 (if (!a0.2.2.2.2.2.2.1) = true then
 xepactref18_kind (a0.1, a0.2.1, a0.2.2.1, ()) false (fun r1 =>
 (if r1 = true then
 (lt (a0.2.2.2.1 == (0 : Int) && (a0.2.2.2.2.1 == false && (ByteArray.toList a0.2.2.2.2.2.1 == ByteArray.toList (ByteArray.mk #[]) && true))) fun v2 =>
 (if v2 = true then
 (lt (a0.2.2.2.2.2.2.2.1 == (0 : Int) && (a0.2.2.2.2.2.2.2.2.1 == (0 : Int) && (a0.2.2.2.2.2.2.2.2.2.1 == (0 : Int) && (a0.2.2.2.2.2.2.2.2.2.2.1 == (0 : Int) && (a0.2.2.2.2.2.2.2.2.2.2.2.1 == (0 : Int) && true))))) fun v3 =>
 (if v3 = true then
 (lt (a0.2.2.2.2.2.2.2.2.2.2.2.2.1 == (0 : Int) && (a0.2.2.2.2.2.2.2.2.2.2.2.2.2.1 == (0 : Int) && (a0.2.2.2.2.2.2.2.2.2.2.2.2.2.2.1 == (0 : Int) && (a0.2.2.2.2.2.2.2.2.2.2.2.2.2.2.2.1 == (0 : Int) && (a0.2.2.2.2.2.2.2.2.2.2.2.2.2.2.2.2.1 == (0 : Int) && true))))) fun v4 =>
 K v4)
 else
 K false))
 else
 K false))
 else
 K false))
 else
 xepactref17_Right (a0.2.2.2.2.2.2.2.1, a0.2.2.2.2.2.2.2.2.1, a0.2.2.2.2.2.2.2.2.2.1, a0.2.2.2.2.2.2.2.2.2.2.1, a0.2.2.2.2.2.2.2.2.2.2.2.1, ()) (fun r5 =>
 xepactref17_Right a0.2.2.2.2.2.2.2.2.2.2.2.2 (fun r6 =>
 (if r5 = true then
 (if r6 = true then
 xepactref18_kind (a0.1, a0.2.1, a0.2.2.1, ()) false (fun r7 =>
 (if r7 = true then
 xepactref18_kind (a0.2.2.2.1, a0.2.2.2.2.1, a0.2.2.2.2.2.1, ()) true (fun r8 =>
 K r8)
 else
 K false))
 else
 K false)
 else
 K false))))
def Xepactref18_Right (a0 : Int × Bool × ByteArray × Int × Bool × ByteArray × Bool × Int × Int × Int × Int × Int × Int × Int × Int × Int × Int × Unit) (K : (Bool) → Prop) : Prop := Yepactref18_Right Xepactref18_kind Xepactref17_Right a0 K
def Jepactref18_Right (X : (Int × Bool × ByteArray × Int × Bool × ByteArray × Bool × Int × Int × Int × Int × Int × Int × Int × Int × Int × Int × Unit) → ((Bool) → Prop) → Prop) : Inst := ⟨12, (.cons (.agg (.cons (.int .i64) (.cons .bool (.cons .str (.cons (.int .i64) (.cons .bool (.cons .str (.cons .bool (.cons (.int .i64) (.cons (.int .i64) (.cons (.int .i64) (.cons (.int .i64) (.cons (.int .i64) (.cons (.int .i64) (.cons (.int .i64) (.cons (.int .i64) (.cons (.int .i64) (.cons (.int .i64) .nil)))))))))))))))))) .nil), .nil, (.cons .bool .nil), .nil, fun x y K => X x.1 (fun u0 => K (u0, ()) ())⟩
def Iepactref18_Right : Inst := Jepactref18_Right Xepactref18_Right
theorem Eepactref18_Right (xepactref18_kind : (Int × Bool × ByteArray × Unit) → (Bool) → ((Bool) → Prop) → Prop) (xepactref17_Right : (Int × Int × Int × Int × Int × Unit) → ((Bool) → Prop) → Prop) (x : PL.T (.cons (.agg (.cons (.int .i64) (.cons .bool (.cons .str (.cons (.int .i64) (.cons .bool (.cons .str (.cons .bool (.cons (.int .i64) (.cons (.int .i64) (.cons (.int .i64) (.cons (.int .i64) (.cons (.int .i64) (.cons (.int .i64) (.cons (.int .i64) (.cons (.int .i64) (.cons (.int .i64) (.cons (.int .i64) .nil)))))))))))))))))) .nil)) (y : PH.T .nil) (K : PL.T (.cons .bool .nil) → PH.T .nil → Prop) : Yepactref18_Right xepactref18_kind xepactref17_Right x.1 (fun u0 => K (u0, ()) ()) = bodyC (envP Tryz.prog 53 gives ⟨tabC [Jepactref18_kind xepactref18_kind, Jepactref17_Right xepactref17_Right], tabL []⟩) Tryz.f12 (Tryz.f12.body.getD .skip) (PL.enc (.cons (.agg (.cons (.int .i64) (.cons .bool (.cons .str (.cons (.int .i64) (.cons .bool (.cons .str (.cons .bool (.cons (.int .i64) (.cons (.int .i64) (.cons (.int .i64) (.cons (.int .i64) (.cons (.int .i64) (.cons (.int .i64) (.cons (.int .i64) (.cons (.int .i64) (.cons (.int .i64) (.cons (.int .i64) .nil)))))))))))))))))) .nil) x) (PH.enc .nil y) (resK (.cons .bool .nil) .nil K) := by kernel_rfl
theorem Iepactref18_Right_ok : InstOk Tryz.prog G.1 Iepactref18_Right := inst_ok (gives := gives) (is := [Iepactref18_kind, Iepactref17_Right]) [] (okCons Iepactref18_kind_ok (okCons Iepactref17_Right_ok okNil)) 53 follows Tryz.func12 (by kernel_rfl) (fun x => by kernel_rfl) (fun x y K => Eepactref18_Right Xepactref18_kind Xepactref17_Right x y K)

/- epact/epactref17.decimals -/
def Yepactref17_decimals (xepactref17_decimals : (Int) → (Int) → ((ByteArray) → Prop) → Prop) (a0 : Int) (a1 : Int) (K : (ByteArray) → Prop) : Prop :=
 (lt (wu8 (w64 ((48 : Int) + Int.tmod a0 (10 : Int)))) fun v2 =>
 (if decide (a0 < (10 : Int)) = true then
 (if decide (a1 ≤ (1 : Int)) = true then
 K (Eng.packB [Eng.V.c (Value.int IntKind.u8 v2)])
 else
 xepactref17_decimals (w64 (Int.tdiv a0 (10 : Int))) (w64 (a1 - (1 : Int))) (fun r3 =>
 (if (↑(ByteArray.size r3 + ByteArray.size (Eng.packB [Eng.V.c (Value.int IntKind.u8 v2)])) : Int) > (9223372036854775807 : Int) then
 False
 else
 (lt (r3 ++ Eng.packB [Eng.V.c (Value.int IntKind.u8 v2)]) fun v4 =>
 K v4))))
 else
 xepactref17_decimals (w64 (Int.tdiv a0 (10 : Int))) (w64 (a1 - (1 : Int))) (fun r5 =>
 (if (↑(ByteArray.size r5 + ByteArray.size (Eng.packB [Eng.V.c (Value.int IntKind.u8 v2)])) : Int) > (9223372036854775807 : Int) then
 False
 else
 (lt (r5 ++ Eng.packB [Eng.V.c (Value.int IntKind.u8 v2)]) fun v6 =>
 K v6)))))
def Xepactref17_decimalsn : Nat → (Int) → (Int) → ((ByteArray) → Prop) → Prop
 | 0 => fun a0 a1 K => False
 | n + 1 => fun a0 a1 K => Yepactref17_decimals (Xepactref17_decimalsn n) a0 a1 K
def Xepactref17_decimals (a0 : Int) (a1 : Int) (K : (ByteArray) → Prop) : Prop := ∃ n, Xepactref17_decimalsn n a0 a1 K
def Jepactref17_decimals (X : (Int) → (Int) → ((ByteArray) → Prop) → Prop) : Inst := ⟨46, (.cons (.int .i64) (.cons (.int .i64) .nil)), .nil, (.cons .str .nil), .nil, fun x y K => X x.1 x.2.1 (fun u0 => K (u0, ()) ())⟩
def Iepactref17_decimals : Inst := Jepactref17_decimals Xepactref17_decimals
theorem Eepactref17_decimals (xepactref17_decimals : (Int) → (Int) → ((ByteArray) → Prop) → Prop) (x : PL.T (.cons (.int .i64) (.cons (.int .i64) .nil))) (y : PH.T .nil) (K : PL.T (.cons .str .nil) → PH.T .nil → Prop) : Yepactref17_decimals xepactref17_decimals x.1 x.2.1 (fun u0 => K (u0, ()) ()) = bodyC (envP Tryz.prog 26 gives ⟨tabC [Jepactref17_decimals xepactref17_decimals], tabL []⟩) Tryz.f46 (Tryz.f46.body.getD .skip) (PL.enc (.cons (.int .i64) (.cons (.int .i64) .nil)) x) (PH.enc .nil y) (resK (.cons .str .nil) .nil K) := by kernel_rfl
theorem Iepactref17_decimals_okn : ∀ n, InstOk Tryz.prog G.1 (Jepactref17_decimals (Xepactref17_decimalsn n))
 | 0 => fun x y K h => h.elim
 | n + 1 => inst_ok (i := Jepactref17_decimals (Xepactref17_decimalsn (n + 1))) (gives := gives) (is := [Jepactref17_decimals (Xepactref17_decimalsn n)]) [] (okCons (Iepactref17_decimals_okn n) okNil) 26 follows Tryz.func46 (by kernel_rfl) (fun x => by kernel_rfl) (fun x y K => Eepactref17_decimals (Xepactref17_decimalsn n) x y K)
theorem Iepactref17_decimals_ok : InstOk Tryz.prog G.1 Iepactref17_decimals := fun x y K ⟨n, h⟩ => Iepactref17_decimals_okn n x y K h

/- epact/epactref17.Clock -/
def Yepactref17_Clock (xepactref17_decimals : (Int) → (Int) → ((ByteArray) → Prop) → Prop) (a0 : Int) (K : (ByteArray) → (Bool) → Prop) : Prop :=
 (if decide (a0 < (-604799 : Int)) = true then
 K (ByteArray.mk #[]) false
 else
 (if decide (a0 > (604799 : Int)) = true then
 K (ByteArray.mk #[]) false
 else
 (if decide (a0 < (0 : Int)) = true then
 (lt (w64 (Int.tdiv (w64 ((0 : Int) - a0)) (3600 : Int))) fun v1 =>
 xepactref17_decimals v1 (1 : Int) (fun r2 =>
 (if (↑((1 : Nat) + ByteArray.size r2) : Int) > (9223372036854775807 : Int) then
 False
 else
 (if (Int.tmod (w64 ((0 : Int) - a0)) (3600 : Int) != (0 : Int)) = true then
 (if (↑(ByteArray.size (ByteArray.mk #[(45 : UInt8)] ++ r2) + (1 : Nat)) : Int) > (9223372036854775807 : Int) then
 False
 else
 (lt (ByteArray.mk #[(45 : UInt8)] ++ r2 ++ ByteArray.mk #[(58 : UInt8)]) fun v3 =>
 (lt (w64 (Int.tdiv (w64 ((0 : Int) - a0)) (60 : Int))) fun v4 =>
 xepactref17_decimals (Int.tmod v4 (60 : Int)) (2 : Int) (fun r5 =>
 (if (↑(ByteArray.size v3 + ByteArray.size r5) : Int) > (9223372036854775807 : Int) then
 False
 else
 (if (Int.tmod (w64 ((0 : Int) - a0)) (60 : Int) != (0 : Int)) = true then
 (if (↑(ByteArray.size (v3 ++ r5) + (1 : Nat)) : Int) > (9223372036854775807 : Int) then
 False
 else
 (lt (v3 ++ r5 ++ ByteArray.mk #[(58 : UInt8)]) fun v6 =>
 xepactref17_decimals (Int.tmod (w64 ((0 : Int) - a0)) (60 : Int)) (2 : Int) (fun r7 =>
 (if (↑(ByteArray.size v6 + ByteArray.size r7) : Int) > (9223372036854775807 : Int) then
 False
 else
 K (v6 ++ r7) true))))
 else
 K (v3 ++ r5) true))))))
 else
 (if (Int.tmod (w64 ((0 : Int) - a0)) (60 : Int) != (0 : Int)) = true then
 (if (↑(ByteArray.size (ByteArray.mk #[(45 : UInt8)] ++ r2) + (1 : Nat)) : Int) > (9223372036854775807 : Int) then
 False
 else
 (lt (ByteArray.mk #[(45 : UInt8)] ++ r2 ++ ByteArray.mk #[(58 : UInt8)]) fun v8 =>
 xepactref17_decimals (Int.tmod (w64 ((0 : Int) - a0)) (60 : Int)) (2 : Int) (fun r9 =>
 (if (↑(ByteArray.size v8 + ByteArray.size r9) : Int) > (9223372036854775807 : Int) then
 False
 else
 K (v8 ++ r9) true))))
 else
 K (ByteArray.mk #[(45 : UInt8)] ++ r2) true)))))
 else
 xepactref17_decimals (w64 (Int.tdiv a0 (3600 : Int))) (1 : Int) (fun r10 =>
 (if (↑((0 : Nat) + ByteArray.size r10) : Int) > (9223372036854775807 : Int) then
 False
 else
 (if (Int.tmod a0 (3600 : Int) != (0 : Int)) = true then
 (if (↑(ByteArray.size (ByteArray.mk #[] ++ r10) + (1 : Nat)) : Int) > (9223372036854775807 : Int) then
 False
 else
 (lt (ByteArray.mk #[] ++ r10 ++ ByteArray.mk #[(58 : UInt8)]) fun v11 =>
 xepactref17_decimals (Int.tmod (w64 (Int.tdiv a0 (60 : Int))) (60 : Int)) (2 : Int) (fun r12 =>
 (if (↑(ByteArray.size v11 + ByteArray.size r12) : Int) > (9223372036854775807 : Int) then
 False
 else
 (if (Int.tmod a0 (60 : Int) != (0 : Int)) = true then
 (if (↑(ByteArray.size (v11 ++ r12) + (1 : Nat)) : Int) > (9223372036854775807 : Int) then
 False
 else
 (lt (v11 ++ r12 ++ ByteArray.mk #[(58 : UInt8)]) fun v13 =>
 xepactref17_decimals (Int.tmod a0 (60 : Int)) (2 : Int) (fun r14 =>
 (if (↑(ByteArray.size v13 + ByteArray.size r14) : Int) > (9223372036854775807 : Int) then
 False
 else
 K (v13 ++ r14) true))))
 else
 K (v11 ++ r12) true)))))
 else
 (if (Int.tmod a0 (60 : Int) != (0 : Int)) = true then
 (if (↑(ByteArray.size (ByteArray.mk #[] ++ r10) + (1 : Nat)) : Int) > (9223372036854775807 : Int) then
 False
 else
 (lt (ByteArray.mk #[] ++ r10 ++ ByteArray.mk #[(58 : UInt8)]) fun v15 =>
 xepactref17_decimals (Int.tmod a0 (60 : Int)) (2 : Int) (fun r16 =>
 (if (↑(ByteArray.size v15 + ByteArray.size r16) : Int) > (9223372036854775807 : Int) then
 False
 else
 K (v15 ++ r16) true))))
 else
 K (ByteArray.mk #[] ++ r10) true)))))))
def Xepactref17_Clock (a0 : Int) (K : (ByteArray) → (Bool) → Prop) : Prop := Yepactref17_Clock Xepactref17_decimals a0 K
def Jepactref17_Clock (X : (Int) → ((ByteArray) → (Bool) → Prop) → Prop) : Inst := ⟨18, (.cons (.int .i64) .nil), .nil, (.cons .str (.cons .bool .nil)), .nil, fun x y K => X x.1 (fun u0 u1 => K (u0, (u1, ())) ())⟩
def Iepactref17_Clock : Inst := Jepactref17_Clock Xepactref17_Clock
theorem Eepactref17_Clock (xepactref17_decimals : (Int) → (Int) → ((ByteArray) → Prop) → Prop) (x : PL.T (.cons (.int .i64) .nil)) (y : PH.T .nil) (K : PL.T (.cons .str (.cons .bool .nil)) → PH.T .nil → Prop) : Yepactref17_Clock xepactref17_decimals x.1 (fun u0 u1 => K (u0, (u1, ())) ()) = bodyC (envP Tryz.prog 40 gives ⟨tabC [Jepactref17_decimals xepactref17_decimals], tabL []⟩) Tryz.f18 (Tryz.f18.body.getD .skip) (PL.enc (.cons (.int .i64) .nil) x) (PH.enc .nil y) (resK (.cons .str (.cons .bool .nil)) .nil K) := by kernel_rfl
theorem Iepactref17_Clock_ok : InstOk Tryz.prog G.1 Iepactref17_Clock := inst_ok (gives := gives) (is := [Iepactref17_decimals]) [] (okCons Iepactref17_decimals_ok okNil) 40 follows Tryz.func18 (by kernel_rfl) (fun x => by kernel_rfl) (fun x y K => Eepactref17_Clock Xepactref17_decimals x y K)

/- epact/epactref18.letter -/
def Yepactref18_letter (a0 : Int) (K : (Bool) → Prop) : Prop :=
 (if decide (a0 ≥ (97 : Int)) = true then
 (if decide (a0 ≤ (122 : Int)) = true then
 K true
 else
 (if decide (a0 ≥ (65 : Int)) = true then
 K (decide (a0 ≤ (90 : Int)))
 else
 K false))
 else
 (if decide (a0 ≥ (65 : Int)) = true then
 K (decide (a0 ≤ (90 : Int)))
 else
 K false))
def Xepactref18_letter (a0 : Int) (K : (Bool) → Prop) : Prop := Yepactref18_letter a0 K
def Jepactref18_letter (X : (Int) → ((Bool) → Prop) → Prop) : Inst := ⟨47, (.cons (.int .u8) .nil), .nil, (.cons .bool .nil), .nil, fun x y K => X x.1 (fun u0 => K (u0, ()) ())⟩
def Iepactref18_letter : Inst := Jepactref18_letter Xepactref18_letter
theorem Eepactref18_letter (x : PL.T (.cons (.int .u8) .nil)) (y : PH.T .nil) (K : PL.T (.cons .bool .nil) → PH.T .nil → Prop) : Yepactref18_letter x.1 (fun u0 => K (u0, ()) ()) = bodyC (envP Tryz.prog 17 gives ⟨tabC [], tabL []⟩) Tryz.f47 (Tryz.f47.body.getD .skip) (PL.enc (.cons (.int .u8) .nil) x) (PH.enc .nil y) (resK (.cons .bool .nil) .nil K) := by kernel_rfl
theorem Iepactref18_letter_ok : InstOk Tryz.prog G.1 Iepactref18_letter := inst_ok (gives := gives) (is := []) [] okNil 17 follows Tryz.func47 (by kernel_rfl) (fun x => by kernel_rfl) (fun x y K => Eepactref18_letter x y K)

/- epact/epactref18.named -/
def Lepactref18_named_0 (xepactref18_letter : (Int) → ((Bool) → Prop) → Prop) (K : (ByteArray) → Prop) : ((ByteArray × ByteArray × Int × Unit) × (Unit) → Prop) → (ByteArray × ByteArray × Int × Unit) × (Unit) → Prop := fun k1 x2 =>
 (if decide (x2.1.2.2.1 < (↑(ByteArray.size x2.1.1) : Int)) = true then
 (if (0 : Int) ≤ x2.1.2.2.1 ∧ x2.1.2.2.1 < (↑(ByteArray.size x2.1.1) : Int) then
 xepactref18_letter (Eng.bAt x2.1.1 (Int.toNat x2.1.2.2.1)) (fun r3 =>
 (if (!r3) = true then
 (if (↑((1 : Nat) + ByteArray.size x2.1.1) : Int) > (9223372036854775807 : Int) then
 False
 else
 (if (↑(ByteArray.size (ByteArray.mk #[(60 : UInt8)] ++ x2.1.1) + (1 : Nat)) : Int) > (9223372036854775807 : Int) then
 False
 else
 (lt (ByteArray.mk #[(60 : UInt8)] ++ x2.1.1 ++ ByteArray.mk #[(62 : UInt8)]) fun v4 =>
 K v4)))
 else
 k1 ((x2.1.1, x2.1.2.1, w64 (x2.1.2.2.1 + (1 : Int)), ()), ())))
 else
 False)
 else
 K x2.1.1)
def Lepactref18_named_0p : Lp := ⟨13, [.trim 13], (.cons 0 .str (.cons 2 .str (.cons 3 (.int .i64) .nil))), .nil, 0⟩
def Yepactref18_named (xepactref18_letter : (Int) → ((Bool) → Prop) → Prop) (a0 : ByteArray) (K : (ByteArray) → Prop) : Prop :=
 lp (Lepactref18_named_0 xepactref18_letter K) ((a0, ByteArray.mk #[], (0 : Int), ()), ())
def Xepactref18_named (a0 : ByteArray) (K : (ByteArray) → Prop) : Prop := Yepactref18_named Xepactref18_letter a0 K
def Jepactref18_named (X : (ByteArray) → ((ByteArray) → Prop) → Prop) : Inst := ⟨19, (.cons .str .nil), .nil, (.cons .str .nil), .nil, fun x y K => X x.1 (fun u0 => K (u0, ()) ())⟩
def Iepactref18_named : Inst := Jepactref18_named Xepactref18_named
theorem Eepactref18_named (xepactref18_letter : (Int) → ((Bool) → Prop) → Prop) (x : PL.T (.cons .str .nil)) (y : PH.T .nil) (K : PL.T (.cons .str .nil) → PH.T .nil → Prop) : Yepactref18_named xepactref18_letter x.1 (fun u0 => K (u0, ()) ()) = bodyC (envP Tryz.prog 19 gives ⟨tabC [Jepactref18_letter xepactref18_letter], tabL [Lepactref18_named_0p]⟩) Tryz.f19 (Tryz.f19.body.getD .skip) (PL.enc (.cons .str .nil) x) (PH.enc .nil y) (resK (.cons .str .nil) .nil K) := by kernel_rfl
theorem Iepactref18_named_ok : InstOk Tryz.prog G.1 Iepactref18_named := inst_ok (gives := gives) (is := [Iepactref18_letter]) [Lepactref18_named_0p] (okCons Iepactref18_letter_ok okNil) 19 follows Tryz.func19 (by kernel_rfl) (fun x => by kernel_rfl) (fun x y K => Eepactref18_named Xepactref18_letter x y K)

/- epact/epactref17.Text -/
def Yepactref17_Text (xepactref17_Right : (Int × Int × Int × Int × Int × Unit) → ((Bool) → Prop) → Prop) (xepactref17_decimals : (Int) → (Int) → ((ByteArray) → Prop) → Prop) (xepactref17_Clock : (Int) → ((ByteArray) → (Bool) → Prop) → Prop) (a0 : Int × Int × Int × Int × Int × Unit) (K : (ByteArray) → (Bool) → Prop) : Prop :=
 xepactref17_Right a0 (fun r1 =>
 (if (!r1) = true then
 K (ByteArray.mk #[]) false
 else
 xepactref17_decimals a0.2.1 (1 : Int) (fun r2 =>
 (if (a0.1 == (0 : Int)) = true then
 (if (↑((1 : Nat) + ByteArray.size r2) : Int) > (9223372036854775807 : Int) then
 False
 else
 (if (↑(ByteArray.size (ByteArray.mk #[(77 : UInt8)] ++ r2) + (1 : Nat)) : Int) > (9223372036854775807 : Int) then
 False
 else
 (lt (ByteArray.mk #[(77 : UInt8)] ++ r2 ++ ByteArray.mk #[(46 : UInt8)]) fun v3 =>
 xepactref17_decimals a0.2.2.1 (1 : Int) (fun r4 =>
 (if (↑(ByteArray.size v3 + ByteArray.size r4) : Int) > (9223372036854775807 : Int) then
 False
 else
 (if (↑(ByteArray.size (v3 ++ r4) + (1 : Nat)) : Int) > (9223372036854775807 : Int) then
 False
 else
 (lt (v3 ++ r4 ++ ByteArray.mk #[(46 : UInt8)]) fun v5 =>
 xepactref17_decimals a0.2.2.2.1 (1 : Int) (fun r6 =>
 (if (↑(ByteArray.size v5 + ByteArray.size r6) : Int) > (9223372036854775807 : Int) then
 False
 else
 (if (a0.1 == (1 : Int)) = true then
 (if (↑((1 : Nat) + ByteArray.size (v5 ++ r6)) : Int) > (9223372036854775807 : Int) then
 False
 else
 (lt (ByteArray.mk #[(74 : UInt8)] ++ (v5 ++ r6)) fun v7 =>
 (if (a0.2.2.2.2.1 != (7200 : Int)) = true then
 xepactref17_Clock a0.2.2.2.2.1 (fun r8 r9 =>
 (if (↑(ByteArray.size v7 + (1 : Nat)) : Int) > (9223372036854775807 : Int) then
 False
 else
 (if (↑(ByteArray.size (v7 ++ ByteArray.mk #[(47 : UInt8)]) + ByteArray.size r8) : Int) > (9223372036854775807 : Int) then
 False
 else
 (lt (v7 ++ ByteArray.mk #[(47 : UInt8)] ++ r8) fun v10 =>
 K v10 true))))
 else
 K v7 true)))
 else
 (if (a0.2.2.2.2.1 != (7200 : Int)) = true then
 xepactref17_Clock a0.2.2.2.2.1 (fun r11 r12 =>
 (if (↑(ByteArray.size (v5 ++ r6) + (1 : Nat)) : Int) > (9223372036854775807 : Int) then
 False
 else
 (lt (v5 ++ r6 ++ ByteArray.mk #[(47 : UInt8)]) fun v13 =>
 (if (↑(ByteArray.size v13 + ByteArray.size r11) : Int) > (9223372036854775807 : Int) then
 False
 else
 K (v13 ++ r11) true))))
 else
 K (v5 ++ r6) true)))))))))))
 else
 (if (a0.1 == (1 : Int)) = true then
 (if (↑((1 : Nat) + ByteArray.size r2) : Int) > (9223372036854775807 : Int) then
 False
 else
 (if (a0.2.2.2.2.1 != (7200 : Int)) = true then
 xepactref17_Clock a0.2.2.2.2.1 (fun r14 r15 =>
 (if (↑(ByteArray.size (ByteArray.mk #[(74 : UInt8)] ++ r2) + (1 : Nat)) : Int) > (9223372036854775807 : Int) then
 False
 else
 (lt (ByteArray.mk #[(74 : UInt8)] ++ r2 ++ ByteArray.mk #[(47 : UInt8)]) fun v16 =>
 (if (↑(ByteArray.size v16 + ByteArray.size r14) : Int) > (9223372036854775807 : Int) then
 False
 else
 K (v16 ++ r14) true))))
 else
 K (ByteArray.mk #[(74 : UInt8)] ++ r2) true))
 else
 (if (a0.2.2.2.2.1 != (7200 : Int)) = true then
 xepactref17_Clock a0.2.2.2.2.1 (fun r17 r18 =>
 (if (↑(ByteArray.size r2 + (1 : Nat)) : Int) > (9223372036854775807 : Int) then
 False
 else
 (if (↑(ByteArray.size (r2 ++ ByteArray.mk #[(47 : UInt8)]) + ByteArray.size r17) : Int) > (9223372036854775807 : Int) then
 False
 else
 (lt (r2 ++ ByteArray.mk #[(47 : UInt8)] ++ r17) fun v19 =>
 K v19 true))))
 else
 K r2 true))))))
def Xepactref17_Text (a0 : Int × Int × Int × Int × Int × Unit) (K : (ByteArray) → (Bool) → Prop) : Prop := Yepactref17_Text Xepactref17_Right Xepactref17_decimals Xepactref17_Clock a0 K
def Jepactref17_Text (X : (Int × Int × Int × Int × Int × Unit) → ((ByteArray) → (Bool) → Prop) → Prop) : Inst := ⟨20, (.cons (.agg (.cons (.int .i64) (.cons (.int .i64) (.cons (.int .i64) (.cons (.int .i64) (.cons (.int .i64) .nil)))))) .nil), .nil, (.cons .str (.cons .bool .nil)), .nil, fun x y K => X x.1 (fun u0 u1 => K (u0, (u1, ())) ())⟩
def Iepactref17_Text : Inst := Jepactref17_Text Xepactref17_Text
theorem Eepactref17_Text (xepactref17_Right : (Int × Int × Int × Int × Int × Unit) → ((Bool) → Prop) → Prop) (xepactref17_decimals : (Int) → (Int) → ((ByteArray) → Prop) → Prop) (xepactref17_Clock : (Int) → ((ByteArray) → (Bool) → Prop) → Prop) (x : PL.T (.cons (.agg (.cons (.int .i64) (.cons (.int .i64) (.cons (.int .i64) (.cons (.int .i64) (.cons (.int .i64) .nil)))))) .nil)) (y : PH.T .nil) (K : PL.T (.cons .str (.cons .bool .nil)) → PH.T .nil → Prop) : Yepactref17_Text xepactref17_Right xepactref17_decimals xepactref17_Clock x.1 (fun u0 u1 => K (u0, (u1, ())) ()) = bodyC (envP Tryz.prog 47 gives ⟨tabC [Jepactref17_Right xepactref17_Right, Jepactref17_decimals xepactref17_decimals, Jepactref17_Clock xepactref17_Clock], tabL []⟩) Tryz.f20 (Tryz.f20.body.getD .skip) (PL.enc (.cons (.agg (.cons (.int .i64) (.cons (.int .i64) (.cons (.int .i64) (.cons (.int .i64) (.cons (.int .i64) .nil)))))) .nil) x) (PH.enc .nil y) (resK (.cons .str (.cons .bool .nil)) .nil K) := by kernel_rfl
theorem Iepactref17_Text_ok : InstOk Tryz.prog G.1 Iepactref17_Text := inst_ok (gives := gives) (is := [Iepactref17_Right, Iepactref17_decimals, Iepactref17_Clock]) [] (okCons Iepactref17_Right_ok (okCons Iepactref17_decimals_ok (okCons Iepactref17_Clock_ok okNil))) 47 follows Tryz.func20 (by kernel_rfl) (fun x => by kernel_rfl) (fun x y K => Eepactref17_Text Xepactref17_Right Xepactref17_decimals Xepactref17_Clock x y K)

/- epact/epactref18.Text -/
def Yepactref18_Text (xepactref18_Right : (Int × Bool × ByteArray × Int × Bool × ByteArray × Bool × Int × Int × Int × Int × Int × Int × Int × Int × Int × Int × Unit) → ((Bool) → Prop) → Prop) (xepactref17_Clock : (Int) → ((ByteArray) → (Bool) → Prop) → Prop) (xepactref18_named : (ByteArray) → ((ByteArray) → Prop) → Prop) (xepactref17_Text : (Int × Int × Int × Int × Int × Unit) → ((ByteArray) → (Bool) → Prop) → Prop) (a0 : Int × Bool × ByteArray × Int × Bool × ByteArray × Bool × Int × Int × Int × Int × Int × Int × Int × Int × Int × Int × Unit) (K : (ByteArray) → (Bool) → Prop) : Prop :=
 xepactref18_Right a0 (fun r1 =>
 (if (!r1) = true then
 K (ByteArray.mk #[]) false
 else
 xepactref17_Clock (w64 ((0 : Int) - a0.1)) (fun r2 r3 =>
 xepactref18_named a0.2.2.1 (fun r4 =>
 (if (↑(ByteArray.size r4 + ByteArray.size r2) : Int) > (9223372036854775807 : Int) then
 False
 else
 (if (!a0.2.2.2.2.2.2.1) = true then
 K (r4 ++ r2) true
 else
 xepactref18_named a0.2.2.2.2.2.1 (fun r5 =>
 (if (↑(ByteArray.size (r4 ++ r2) + ByteArray.size r5) : Int) > (9223372036854775807 : Int) then
 False
 else
 (if (a0.2.2.2.1 != w64 (a0.1 + (3600 : Int))) = true then
 xepactref17_Clock (w64 ((0 : Int) - a0.2.2.2.1)) (fun r6 r7 =>
 (if (↑(ByteArray.size (r4 ++ r2 ++ r5) + ByteArray.size r6) : Int) > (9223372036854775807 : Int) then
 False
 else
 (lt (r4 ++ r2 ++ r5 ++ r6) fun v8 =>
 xepactref17_Text (a0.2.2.2.2.2.2.2.1, a0.2.2.2.2.2.2.2.2.1, a0.2.2.2.2.2.2.2.2.2.1, a0.2.2.2.2.2.2.2.2.2.2.1, a0.2.2.2.2.2.2.2.2.2.2.2.1, ()) (fun r9 r10 =>
 xepactref17_Text a0.2.2.2.2.2.2.2.2.2.2.2.2 (fun r11 r12 =>
 (if (↑(ByteArray.size v8 + (1 : Nat)) : Int) > (9223372036854775807 : Int) then
 False
 else
 (if (↑(ByteArray.size (v8 ++ ByteArray.mk #[(44 : UInt8)]) + ByteArray.size r9) : Int) > (9223372036854775807 : Int) then
 False
 else
 (lt (v8 ++ ByteArray.mk #[(44 : UInt8)] ++ r9) fun v13 =>
 (if (↑(ByteArray.size v13 + (1 : Nat)) : Int) > (9223372036854775807 : Int) then
 False
 else
 (if (↑(ByteArray.size (v13 ++ ByteArray.mk #[(44 : UInt8)]) + ByteArray.size r11) : Int) > (9223372036854775807 : Int) then
 False
 else
 (lt (v13 ++ ByteArray.mk #[(44 : UInt8)] ++ r11) fun v14 =>
 K v14 true)))))))))))
 else
 xepactref17_Text (a0.2.2.2.2.2.2.2.1, a0.2.2.2.2.2.2.2.2.1, a0.2.2.2.2.2.2.2.2.2.1, a0.2.2.2.2.2.2.2.2.2.2.1, a0.2.2.2.2.2.2.2.2.2.2.2.1, ()) (fun r15 r16 =>
 xepactref17_Text a0.2.2.2.2.2.2.2.2.2.2.2.2 (fun r17 r18 =>
 (if (↑(ByteArray.size (r4 ++ r2 ++ r5) + (1 : Nat)) : Int) > (9223372036854775807 : Int) then
 False
 else
 (lt (r4 ++ r2 ++ r5 ++ ByteArray.mk #[(44 : UInt8)]) fun v19 =>
 (if (↑(ByteArray.size v19 + ByteArray.size r15) : Int) > (9223372036854775807 : Int) then
 False
 else
 (if (↑(ByteArray.size (v19 ++ r15) + (1 : Nat)) : Int) > (9223372036854775807 : Int) then
 False
 else
 (lt (v19 ++ r15 ++ ByteArray.mk #[(44 : UInt8)]) fun v20 =>
 (if (↑(ByteArray.size v20 + ByteArray.size r17) : Int) > (9223372036854775807 : Int) then
 False
 else
 K (v20 ++ r17) true)))))))))))))))))
def Xepactref18_Text (a0 : Int × Bool × ByteArray × Int × Bool × ByteArray × Bool × Int × Int × Int × Int × Int × Int × Int × Int × Int × Int × Unit) (K : (ByteArray) → (Bool) → Prop) : Prop := Yepactref18_Text Xepactref18_Right Xepactref17_Clock Xepactref18_named Xepactref17_Text a0 K
def Jepactref18_Text (X : (Int × Bool × ByteArray × Int × Bool × ByteArray × Bool × Int × Int × Int × Int × Int × Int × Int × Int × Int × Int × Unit) → ((ByteArray) → (Bool) → Prop) → Prop) : Inst := ⟨6, (.cons (.agg (.cons (.int .i64) (.cons .bool (.cons .str (.cons (.int .i64) (.cons .bool (.cons .str (.cons .bool (.cons (.int .i64) (.cons (.int .i64) (.cons (.int .i64) (.cons (.int .i64) (.cons (.int .i64) (.cons (.int .i64) (.cons (.int .i64) (.cons (.int .i64) (.cons (.int .i64) (.cons (.int .i64) .nil)))))))))))))))))) .nil), .nil, (.cons .str (.cons .bool .nil)), .nil, fun x y K => X x.1 (fun u0 u1 => K (u0, (u1, ())) ())⟩
def Iepactref18_Text : Inst := Jepactref18_Text Xepactref18_Text
theorem Eepactref18_Text (xepactref18_Right : (Int × Bool × ByteArray × Int × Bool × ByteArray × Bool × Int × Int × Int × Int × Int × Int × Int × Int × Int × Int × Unit) → ((Bool) → Prop) → Prop) (xepactref17_Clock : (Int) → ((ByteArray) → (Bool) → Prop) → Prop) (xepactref18_named : (ByteArray) → ((ByteArray) → Prop) → Prop) (xepactref17_Text : (Int × Int × Int × Int × Int × Unit) → ((ByteArray) → (Bool) → Prop) → Prop) (x : PL.T (.cons (.agg (.cons (.int .i64) (.cons .bool (.cons .str (.cons (.int .i64) (.cons .bool (.cons .str (.cons .bool (.cons (.int .i64) (.cons (.int .i64) (.cons (.int .i64) (.cons (.int .i64) (.cons (.int .i64) (.cons (.int .i64) (.cons (.int .i64) (.cons (.int .i64) (.cons (.int .i64) (.cons (.int .i64) .nil)))))))))))))))))) .nil)) (y : PH.T .nil) (K : PL.T (.cons .str (.cons .bool .nil)) → PH.T .nil → Prop) : Yepactref18_Text xepactref18_Right xepactref17_Clock xepactref18_named xepactref17_Text x.1 (fun u0 u1 => K (u0, (u1, ())) ()) = bodyC (envP Tryz.prog 76 gives ⟨tabC [Jepactref18_Right xepactref18_Right, Jepactref17_Clock xepactref17_Clock, Jepactref18_named xepactref18_named, Jepactref17_Text xepactref17_Text], tabL []⟩) Tryz.f6 (Tryz.f6.body.getD .skip) (PL.enc (.cons (.agg (.cons (.int .i64) (.cons .bool (.cons .str (.cons (.int .i64) (.cons .bool (.cons .str (.cons .bool (.cons (.int .i64) (.cons (.int .i64) (.cons (.int .i64) (.cons (.int .i64) (.cons (.int .i64) (.cons (.int .i64) (.cons (.int .i64) (.cons (.int .i64) (.cons (.int .i64) (.cons (.int .i64) .nil)))))))))))))))))) .nil) x) (PH.enc .nil y) (resK (.cons .str (.cons .bool .nil)) .nil K) := by kernel_rfl
theorem Iepactref18_Text_ok : InstOk Tryz.prog G.1 Iepactref18_Text := inst_ok (gives := gives) (is := [Iepactref18_Right, Iepactref17_Clock, Iepactref18_named, Iepactref17_Text]) [] (okCons Iepactref18_Right_ok (okCons Iepactref17_Clock_ok (okCons Iepactref18_named_ok (okCons Iepactref17_Text_ok okNil)))) 76 follows Tryz.func6 (by kernel_rfl) (fun x => by kernel_rfl) (fun x y K => Eepactref18_Text Xepactref18_Right Xepactref17_Clock Xepactref18_named Xepactref17_Text x y K)

end Go.Proofs.YtcopbcfekmbhlaaGreatDoor
end
