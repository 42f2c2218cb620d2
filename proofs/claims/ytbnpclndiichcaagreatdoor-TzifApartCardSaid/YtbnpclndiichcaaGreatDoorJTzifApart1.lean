/- What the functions come to in plain data, with proofs, and what that answers. -/
import Derived.Test.YtbnpclndiichcaaGreatDoorJTzifApart0
import Derived.Lib.Strings
import Derived.Lib.Atoi
import Derived.Laws.Concat
import Derived.Laws.RangeAny
import Derived.Lib.Bytealg
import Derived.Lib.Join
section
set_option linter.unusedVariables false
set_option linter.unusedSimpArgs false
namespace Go.Proofs.YtbnpclndiichcaaGreatDoor
open Go Go.Proofs.YtbnpclndiichcaaGreatDoor.Eng
set_option linter.unusedVariables false
set_option maxRecDepth 100000
set_option maxHeartbeats 4000000
variable {G : Gs}
abbrev uQ0 : Type := Int × Int × Int × Int × Int × Int × Int × Unit
abbrev upL1 : PL := (.cons (.agg (.cons (.int .i64) (.cons (.int .i64) (.cons (.int .i64) (.cons (.int .i64) (.cons (.int .i64) (.cons (.int .i64) (.cons (.int .i64) .nil)))))))) (.cons (.int .i64) .nil))
abbrev upL2 : PL := (.cons (.int .i64) .nil)
abbrev upL3 : PL := (.cons (.slN 1) .nil)
abbrev upL4 : PL := (.cons (.sla 0) .nil)
abbrev upH5 : PH := (.cons 0 (.arrB 1) .nil)
abbrev upL6 : PL := (.cons (.ptr 0 0) .nil)
abbrev upH7 : PH := (.cons 0 (.cells [.sl 1, .bool] (.cons (.sla 1) (.cons .bool .nil))) (.cons 1 (.arrB 1) .nil))
abbrev upL8 : PL := (.cons (.int .i64) (.cons (.int .i64) .nil))
abbrev upL9 : PL := (.cons .bool .nil)
abbrev upL10 : PL := (.cons (.ptr 0 0) (.cons (.int .i64) .nil))
abbrev upL11 : PL := (.cons (.sla 1) .nil)
abbrev upH12 : PH := (.cons 0 (.cells [.sl 1, .bool] (.cons (.sla 2) (.cons .bool .nil))) (.cons 1 (.arrB 1) (.cons 2 (.arrB 1) .nil)))
abbrev uQ13 : Type := (Int × Int × Unit × Int × Int × Unit) × (Unit × Bool × Unit) × (List Eng.V × Bool × Bool) × (List Eng.V × Bool × Bool) × Unit
abbrev upT14 : PT := (.cons 1 (.int .i64) (.cons 4 (.int .i64) (.cons 12 (.sla 257) (.cons 13 (.int .i64) (.cons 14 (.int .i64) .nil)))))
abbrev upH15 : PH := (.cons 0 (.cells [.sl 1, .bool] (.cons (.sla 256) (.cons .bool .nil))) (.cons 256 (.arrB 1) (.cons 257 (.arrB 1) .nil)))
abbrev upH16 : PH := (.cons 0 (.cells [.sl 1, .bool] (.cons (.slN 1) (.cons .bool .nil))) .nil)
abbrev upT18 : PT := (.cons 0 (.ptr 0 0) (.cons 4 (.sla 672) (.cons 5 (.sla 688) (.cons 6 .bool (.cons 9 (.int .i64) (.cons 10 (.int .i64) .nil))))))
abbrev upL20 : PL := (.cons (.sla 1) (.cons (.sla 2) (.cons .bool .nil)))
abbrev upH21 : PH := (.cons 0 (.cells [.sl 1, .bool] (.cons (.sla 3) (.cons .bool .nil))) (.cons 1 (.arrB 3) (.cons 2 (.arrB 1) (.cons 3 (.arrB 1) .nil))))
abbrev upL22 : PL := (.cons .str (.cons (.int .i64) .nil))
abbrev upL23 : PL := (.cons .str (.cons .bool .nil))
abbrev upL24 : PL := (.cons (.int .u8) .nil)
abbrev uQ25 : Type := (List Eng.V × (Unit × Unit) × Int × Int × Int × Unit) × Unit
abbrev upT26 : PT := (.cons 0 (.slN 1) (.cons 1 (.fn (.func 128) .nil .nil) (.cons 4 (.int .i64) (.cons 7 (.int .i64) (.cons 8 (.int .i64) .nil)))))
abbrev upL27 : PL := (.cons (.slN 1) (.cons (.fn (.func 128) .nil .nil) .nil))
abbrev uQ28 : Type := (List Eng.V × List Eng.V × Bool × (Unit × Unit) × List Eng.V × Int × Int × Unit) × Unit
abbrev upT29 : PT := (.cons 0 (.slN 1) (.cons 1 (.slN 1) (.cons 4 .bool (.cons 5 (.fn (.func 128) .nil .nil) (.cons 8 (.slN 1) (.cons 9 (.int .i64) (.cons 10 (.int .i64) .nil)))))))
abbrev upL30 : PL := (.cons (.slN 1) (.cons (.slN 1) .nil))
abbrev uQ31 : Type := (Unit × Unit × Unit × Bool × Int × Int × Unit) × (List Eng.V × Bool × Unit) × (List Eng.V × Bool × Bool) × List Eng.V × List Eng.V × Unit
abbrev upH32 : PH := (.cons 0 (.cells [.sl 1, .bool] (.cons (.slN 1) (.cons .bool .nil))) (.cons 1 (.arrB 1) (.cons 672 (.arr 3 true false) (.cons 688 (.arr 1 true false) .nil))))
abbrev uQ33 : Type := Unit × Unit × Unit × ByteArray × Int × Unit
abbrev uQ34 : Type := (Int × Unit × Unit × Bool × Unit × Unit × Int × Int × Unit) × (Int × Int × Int × Int × Int × Int × Int × Unit) × (Unit × Unit × Unit × ByteArray × Int × Unit) × (Unit × Unit × Unit × ByteArray × Int × Unit) × (Unit × Bool × Unit) × (List Eng.V × Bool × Bool) × List Eng.V × Unit
abbrev uQ35 : Type := (Int × Unit × Unit × Bool × Unit × Unit × Unit × Unit × Bool × ByteArray × Int × Int × Unit) × (Int × Int × Int × Int × Int × Int × Int × Unit) × (Unit × Unit × Unit × ByteArray × Int × Unit) × (Unit × Unit × Unit × ByteArray × Int × Unit) × (Unit × Bool × Unit) × List Eng.V × (List Eng.V × Bool × Bool) × (List Eng.V × Bool × Bool) × (List Eng.V × Bool × Bool) × Unit
abbrev uQ36 : Type := (Int × Unit × Unit × Bool × Unit × Unit × Bool × Int × Int × Unit) × (Int × Int × Int × Int × Int × Int × Int × Unit) × (List Eng.V × List Eng.V × List Eng.V × ByteArray × Int × Unit) × (Unit × Unit × Unit × ByteArray × Int × Unit) × (Unit × Bool × Unit) × List Eng.V × (List Eng.V × Bool × Bool) × (List Eng.V × Bool × Bool) × List Eng.V × Unit
abbrev upT37 : PT := (.cons 2 (.int .i64) (.cons 3 (.ptr 112 0) (.cons 6 (.ptr 160 0) (.cons 7 .bool (.cons 9 (.ptr 608 0) (.cons 10 (.ptr 224 0) (.cons 15 .bool (.cons 109 (.int .i64) (.cons 110 (.int .i64) .nil)))))))))
abbrev upH38 : PH := (.cons 112 (.cells [.int .i64, .int .i64, .int .i64, .int .i64, .int .i64, .int .i64, .int .i64] (.cons (.int .i64) (.cons (.int .i64) (.cons (.int .i64) (.cons (.int .i64) (.cons (.int .i64) (.cons (.int .i64) (.cons (.int .i64) .nil)))))))) (.cons 160 (.cells [.sl 3, .sl 2, .sl 2, .str, .int .i64] (.cons (.slN 3) (.cons (.slN 2) (.cons (.slN 2) (.cons .str (.cons (.int .i64) .nil)))))) (.cons 224 (.cells [.sl 3, .sl 2, .sl 2, .str, .int .i64] (.cons (.sla 1249) (.cons (.sla 688) (.cons (.sla 2672) (.cons .str (.cons (.int .i64) .nil)))))) (.cons 608 (.cells [.sl 1, .bool] (.cons (.sla 1360) (.cons .bool .nil))) (.cons 688 (.arr 2 true false) (.cons 1249 (.arrB 3) (.cons 1360 (.arrB 1) (.cons 2672 (.arr 2 true false) .nil))))))))
abbrev upT39 : PT := (.cons 2 (.int .i64) (.cons 3 (.ptr 112 0) (.cons 6 (.ptr 160 0) (.cons 7 .bool (.cons 9 (.ptr 608 0) (.cons 10 (.ptr 224 0) (.cons 13 (.sla 1249) (.cons 14 (.sla 1250) (.cons 15 .bool (.cons 16 .str (.cons 84 (.int .i64) (.cons 85 (.int .i64) .nil))))))))))))
abbrev upH40 : PH := (.cons 112 (.cells [.int .i64, .int .i64, .int .i64, .int .i64, .int .i64, .int .i64, .int .i64] (.cons (.int .i64) (.cons (.int .i64) (.cons (.int .i64) (.cons (.int .i64) (.cons (.int .i64) (.cons (.int .i64) (.cons (.int .i64) .nil)))))))) (.cons 160 (.cells [.sl 3, .sl 2, .sl 2, .str, .int .i64] (.cons (.nl 3) (.cons (.nl 2) (.cons (.nl 2) (.cons .str (.cons (.int .i64) .nil)))))) (.cons 224 (.cells [.sl 3, .sl 2, .sl 2, .str, .int .i64] (.cons (.nl 3) (.cons (.sla 688) (.cons (.nl 2) (.cons .str (.cons (.int .i64) .nil)))))) (.cons 608 (.cells [.sl 1, .bool] (.cons (.sla 1360) (.cons .bool .nil))) (.cons 688 (.arr 2 true false) (.cons 1249 (.arrB 3) (.cons 1250 (.arrB 1) (.cons 1360 (.arrB 1) .nil))))))))
abbrev upT41 : PT := (.cons 2 (.int .i64) (.cons 3 (.ptr 112 0) (.cons 6 (.ptr 160 0) (.cons 7 .bool (.cons 9 (.ptr 608 0) (.cons 10 (.ptr 224 0) (.cons 58 (.int .i64) (.cons 59 (.int .i64) .nil))))))))
abbrev upH42 : PH := (.cons 112 (.cells [.int .i64, .int .i64, .int .i64, .int .i64, .int .i64, .int .i64, .int .i64] (.cons (.int .i64) (.cons (.int .i64) (.cons (.int .i64) (.cons (.int .i64) (.cons (.int .i64) (.cons (.int .i64) (.cons (.int .i64) .nil)))))))) (.cons 160 (.cells [.sl 3, .sl 2, .sl 2, .str, .int .i64] (.cons (.nl 3) (.cons (.nl 2) (.cons (.nl 2) (.cons .str (.cons (.int .i64) .nil)))))) (.cons 224 (.cells [.sl 3, .sl 2, .sl 2, .str, .int .i64] (.cons (.nl 3) (.cons (.sla 688) (.cons (.nl 2) (.cons .str (.cons (.int .i64) .nil)))))) (.cons 608 (.cells [.sl 1, .bool] (.cons (.sla 609) (.cons .bool .nil))) (.cons 609 (.arrB 1) (.cons 688 (.arr 2 true false) .nil))))))
abbrev upT43 : PT := (.cons 2 (.int .i64) (.cons 3 (.ptr 112 0) (.cons 6 (.ptr 160 0) (.cons 7 .bool (.cons 9 (.ptr 608 0) (.cons 10 (.ptr 224 0) (.cons 43 (.int .i64) (.cons 44 (.int .i64) .nil))))))))
abbrev upL44 : PL := (.cons (.agg (.cons (.int .i64) (.cons (.int .i64) (.cons (.int .i64) (.cons (.int .i64) (.cons (.int .i64) (.cons (.int .i64) (.cons (.int .i64) .nil)))))))) (.cons (.slN 1) (.cons (.int .i64) .nil)))
abbrev upL45 : PL := (.cons (.agg (.cons (.sla 0) (.cons (.sla 1) (.cons (.sla 2) (.cons .str (.cons (.int .i64) .nil)))))) (.cons .bool .nil))
abbrev upH46 : PH := (.cons 0 (.arrB 3) (.cons 1 (.arrB 2) (.cons 2 (.arrB 2) .nil)))
abbrev uQ47 : Type := (Int × Unit × Bool × Unit × Int × Unit) × (List Eng.V × Bool × Bool) × Unit
abbrev upT48 : PT := (.cons 1 (.int .i64) (.cons 6 (.nl 0) (.cons 7 .bool (.cons 8 (.sla 240) (.cons 9 (.int .i64) .nil)))))
abbrev upH49 : PH := (.cons 240 (.arrB 1) .nil)
abbrev upL50 : PL := (.cons (.slN 1) (.cons (.int .i64) (.cons (.int .i64) .nil)))
abbrev upL51 : PL := (.cons (.sla 0) (.cons .bool .nil))
abbrev uQ52 : Type := (Unit × Bool × Unit × (Int × Int × Int × Int × Int × Int × Unit) × Int × Unit) × (List Eng.V × Bool × Bool) × Unit
abbrev upT53 : PT := (.cons 2 (.nl 0) (.cons 3 .bool (.cons 4 (.sla 224) (.cons 34 (.agg (.cons (.int .i64) (.cons (.int .i64) (.cons (.int .i64) (.cons (.int .i64) (.cons (.int .i64) (.cons (.int .i64) .nil))))))) (.cons 35 (.int .i64) .nil)))))
abbrev upH54 : PH := (.cons 224 (.arrB 1) .nil)
abbrev upL55 : PL := (.cons (.agg (.cons (.int .i64) (.cons (.int .i64) (.cons (.int .i64) (.cons (.int .i64) (.cons (.int .i64) (.cons (.int .i64) (.cons (.int .i64) .nil)))))))) .nil)
abbrev upL56 : PL := (.cons (.ptr 0 0) (.cons (.int .i64) (.cons (.int .i64) .nil)))
abbrev uQ58 : Type := List Eng.V × List Eng.V × List Eng.V × ByteArray × Int × Unit
abbrev uQ59 : Type := (Int × Unit × Unit × Bool × ByteArray × Unit × Unit × List Eng.V × Int × Int × Unit) × (List Eng.V × List Eng.V × List Eng.V × ByteArray × Int × Unit) × (Unit × Bool × Unit) × (List Eng.V × Bool × Bool) × (List Eng.V × Bool × Bool) × Unit
abbrev uQ60 : Type := (Int × Unit × Bool × Unit × List Eng.V × Int × Int × Unit) × (Unit × Bool × Unit) × (List Eng.V × Bool × Bool) × Unit
abbrev upT61 : PT := (.cons 1 (.int .i64) (.cons 4 (.nl 0) (.cons 5 .bool (.cons 11 (.ptr 240 0) (.cons 91 (.slN 2) (.cons 92 (.int .i64) (.cons 93 (.int .i64) .nil)))))))
abbrev upH62 : PH := (.cons 240 (.cells [.sl 1, .bool] (.cons (.sla 2128) (.cons .bool .nil))) (.cons 2128 (.arrB 1) .nil))
abbrev upT63 : PT := (.cons 1 (.int .i64) (.cons 2 (.ptr 96 0) (.cons 4 (.nl 0) (.cons 5 .bool (.cons 8 .str (.cons 9 (.sla 656) (.cons 11 (.ptr 240 0) (.cons 65 (.slN 3) (.cons 66 (.int .i64) (.cons 67 (.int .i64) .nil))))))))))
abbrev upH64 : PH := (.cons 96 (.cells [.sl 3, .sl 2, .sl 2, .str, .int .i64] (.cons (.slN 3) (.cons (.slN 2) (.cons (.slN 2) (.cons .str (.cons (.int .i64) .nil)))))) (.cons 240 (.cells [.sl 1, .bool] (.cons (.sla 2128) (.cons .bool .nil))) (.cons 656 (.arrB 1) (.cons 2128 (.arrB 1) .nil))))
abbrev upT65 : PT := (.cons 1 (.int .i64) (.cons 2 (.ptr 96 0) (.cons 4 (.nl 0) (.cons 5 .bool (.cons 8 .str (.cons 9 (.sla 656) (.cons 11 (.ptr 240 0) (.cons 54 (.slN 2) (.cons 55 (.int .i64) (.cons 56 (.int .i64) .nil))))))))))
abbrev upT66 : PT := (.cons 1 (.int .i64) (.cons 2 (.ptr 96 0) (.cons 4 (.nl 0) (.cons 5 .bool (.cons 8 .str (.cons 9 (.sla 656) (.cons 11 (.ptr 240 0) (.cons 42 (.slN 2) (.cons 43 (.int .i64) (.cons 44 (.int .i64) .nil))))))))))
abbrev upL67 : PL := (.cons (.agg (.cons (.slN 3) (.cons (.slN 2) (.cons (.slN 2) (.cons .str (.cons (.int .i64) .nil)))))) (.cons (.int .i64) .nil))
abbrev upL68 : PL := (.cons (.nl 1) (.cons (.int .i64) .nil))
abbrev uQ69 : Type := (List Eng.V × Unit × Int × List Eng.V × Int × Int × Unit) × Unit
abbrev uQ70 : Type := (Unit × Unit × List Eng.V × Int × Int × Unit) × (List Eng.V × Bool × Bool) × Unit
abbrev upT71 : PT := (.cons 2 (.nl 0) (.cons 6 (.sla 448) (.cons 25 (.slN 1) (.cons 26 (.int .i64) (.cons 27 (.int .i64) .nil)))))
abbrev upH72 : PH := (.cons 448 (.arrB 1) .nil)
abbrev upT73 : PT := (.cons 0 (.slN 1) (.cons 2 (.nl 0) (.cons 3 (.int .i64) (.cons 9 (.slN 1) (.cons 10 (.int .i64) (.cons 11 (.int .i64) .nil))))))
abbrev upL74 : PL := (.cons (.agg (.cons (.slN 3) (.cons (.slN 2) (.cons (.slN 2) (.cons .str (.cons (.int .i64) .nil)))))) .nil)
abbrev upT75 : PT := (.cons 0 (.slN 1) (.cons 1 (.fn (.func 204) .nil .nil) (.cons 4 (.int .i64) (.cons 7 (.int .i64) (.cons 8 (.int .i64) .nil)))))
abbrev upL76 : PL := (.cons (.slN 1) (.cons (.fn (.func 204) .nil .nil) .nil))
abbrev upL77 : PL := (.cons (.agg (.cons (.int .i64) (.cons (.int .i64) (.cons (.int .i64) (.cons (.int .i64) (.cons (.int .i64) (.cons (.int .i64) (.cons (.int .i64) .nil)))))))) (.cons .bool .nil))
abbrev upL78 : PL := (.cons (.slN 1) (.cons (.int .i64) .nil))
abbrev upL79 : PL := (.cons (.agg (.cons (.int .i64) (.cons (.int .i64) (.cons (.int .i64) (.cons (.int .i64) (.cons (.int .i64) (.cons (.int .i64) (.cons (.int .i64) .nil)))))))) (.cons (.sla 0) (.cons (.sla 1) (.cons .bool .nil))))
abbrev upH80 : PH := (.cons 0 (.arrB 1) (.cons 1 (.arrB 1) .nil))
abbrev upL81 : PL := (.cons .str (.cons .str .nil))
abbrev upL82 : PL := (.cons (.agg (.cons (.sla 0) (.cons (.sla 1) (.cons (.sla 2) (.cons .str (.cons (.int .i64) .nil)))))) (.cons (.int .i64) .nil))
abbrev uQ83 : Type := (List Eng.V × List Eng.V × Bool × Int × Unit) × Unit
abbrev upT84 : PT := (.cons 0 (.slN 2) (.cons 1 (.slN 2) (.cons 4 .bool (.cons 5 (.int .i64) .nil))))
abbrev upL85 : PL := (.cons (.slN 2) (.cons (.slN 2) .nil))
abbrev uQ86 : Type := (Unit × Unit × Bool × Int × Unit) × (List Eng.V × List Eng.V × List Eng.V × ByteArray × Int × Unit) × (List Eng.V × List Eng.V × List Eng.V × ByteArray × Int × Unit) × Unit
abbrev upT87 : PT := (.cons 2 (.ptr 96 0) (.cons 3 (.ptr 112 0) (.cons 4 .bool (.cons 6 (.int .i64) .nil))))
abbrev upH88 : PH := (.cons 96 (.cells [.sl 3, .sl 2, .sl 2, .str, .int .i64] (.cons (.slN 3) (.cons (.slN 2) (.cons (.slN 2) (.cons .str (.cons (.int .i64) .nil)))))) (.cons 112 (.cells [.sl 3, .sl 2, .sl 2, .str, .int .i64] (.cons (.slN 3) (.cons (.slN 2) (.cons (.slN 2) (.cons .str (.cons (.int .i64) .nil)))))) .nil))
abbrev upT89 : PT := (.cons 2 (.ptr 96 0) (.cons 3 (.ptr 112 0) (.cons 4 .bool (.cons 5 (.int .i64) .nil))))
abbrev upL90 : PL := (.cons (.agg (.cons (.slN 3) (.cons (.slN 2) (.cons (.slN 2) (.cons .str (.cons (.int .i64) .nil)))))) (.cons (.agg (.cons (.slN 3) (.cons (.slN 2) (.cons (.slN 2) (.cons .str (.cons (.int .i64) .nil)))))) .nil))
abbrev uQ91 : Type := (List Eng.V × List Eng.V × Bool × Int × Int × Unit) × Unit
abbrev upT92 : PT := (.cons 0 (.slN 3) (.cons 1 (.slN 3) (.cons 4 .bool (.cons 12 (.int .i64) (.cons 13 (.int .i64) .nil)))))
abbrev upL93 : PL := (.cons (.slN 3) (.cons (.slN 3) .nil))
abbrev upT94 : PT := (.cons 0 (.slN 2) (.cons 1 (.slN 2) (.cons 4 .bool (.cons 12 (.int .i64) (.cons 13 (.int .i64) .nil)))))
abbrev Thead_Size : Type := uQ0 → Int → (Int → Prop) → Prop
def Yhead_Size (xhead_Right : Thead_Right) (a0 : uQ0) (a1 : Int) (K : Int → Prop) : Prop :=
 xhead_Right a0 (fun r2 =>
 (if (!r2) then
 (if (!r2) then
 K 0
 else
 (lt (w64 (a0.2.2.2.2.1 * w64 (a1 + 1))) fun v3 =>
 (lt (w64 (v3 + w64 (a0.2.2.2.2.2.1 * 6))) fun v4 =>
 (lt (w64 (a0.2.2.2.1 * w64 (a1 + 4))) fun v5 =>
 (lt (w64 (w64 (v4 + a0.2.2.2.2.2.2.1) + v5)) fun v6 =>
 (lt (w64 (w64 (v6 + a0.2.2.1) + a0.2.1)) fun v7 =>
 K v7))))))
 else
 (if (a1 != 4) then
 (if (a1 != 8) then
 K 0
 else
 (lt (w64 (a0.2.2.2.2.1 * w64 (a1 + 1))) fun v8 =>
 (lt (w64 (v8 + w64 (a0.2.2.2.2.2.1 * 6))) fun v9 =>
 (lt (w64 (a0.2.2.2.1 * w64 (a1 + 4))) fun v10 =>
 (lt (w64 (w64 (v9 + a0.2.2.2.2.2.2.1) + v10)) fun v11 =>
 (lt (w64 (w64 (v11 + a0.2.2.1) + a0.2.1)) fun v12 =>
 K v12))))))
 else
 (lt (w64 (a0.2.2.2.2.1 * w64 (a1 + 1))) fun v13 =>
 (lt (w64 (v13 + w64 (a0.2.2.2.2.2.1 * 6))) fun v14 =>
 (lt (w64 (a0.2.2.2.1 * w64 (a1 + 4))) fun v15 =>
 (lt (w64 (w64 (v14 + a0.2.2.2.2.2.2.1) + v15)) fun v16 =>
 (lt (w64 (w64 (v16 + a0.2.2.1) + a0.2.1)) fun v17 =>
 K v17))))))))
def Xhead_Size : Thead_Size := Yhead_Size Xhead_Right
def Jhead_Size (X : Thead_Size) : Inst := mkI 40 upL1 .nil upL2 .nil X
def Ihead_Size : Inst := Jhead_Size Xhead_Size
theorem Ehead_Size (xhead_Right : Thead_Right) : EqF Tryz.prog 39 gives Tryz.f40 [Jhead_Right xhead_Right] [] (Jhead_Size (Yhead_Size xhead_Right)) := fun x y K => by kernel_rfl
theorem Ihead_Size_ok : InstOk Tryz.prog G.1 Ihead_Size := iok (gives := gives) [] (okCons Ihead_Right_ok okNil) 39 follows Tryz.func40 (by kernel_rfl) (fun x => by kernel_rfl) (Ehead_Size Xhead_Right)
abbrev Tslices_Clone___byte_byte_ : Type := (List Eng.V) → ((List Eng.V) → Bool → Bool → Prop) → Prop
def Yslices_Clone___byte_byte_ (a0 : (List Eng.V)) (K : (List Eng.V) → Bool → Bool → Prop) : Prop :=
 (if List.length a0 = (0 : Nat) then
 (
 K [] true true
 ∧
 (if Eng.roomOk ((0 : Nat) + List.length a0) (1 : Nat) then
 K ([] ++ a0) true false
 else
 False))
 else
 (if Eng.roomOk ((0 : Nat) + List.length a0) (1 : Nat) then
 K ([] ++ a0) true false
 else
 False))
def Xslices_Clone___byte_byte_ : Tslices_Clone___byte_byte_ := Yslices_Clone___byte_byte_
def Jslices_Clone___byte_byte_ (X : Tslices_Clone___byte_byte_) : Inst := mkI 126 upL3 .nil upL4 upH5 X
def Islices_Clone___byte_byte_ : Inst := Jslices_Clone___byte_byte_ Xslices_Clone___byte_byte_
theorem Eslices_Clone___byte_byte_ : EqF Tryz.prog 8 gives Tryz.f126 [] [] (Jslices_Clone___byte_byte_ (Yslices_Clone___byte_byte_)) := fun x y K => by kernel_rfl
theorem Islices_Clone___byte_byte__ok : InstOk Tryz.prog G.1 Islices_Clone___byte_byte_ := iok (gives := gives) [] okNil 8 follows Tryz.func126 (by kernel_rfl) (fun x => by kernel_rfl) (Eslices_Clone___byte_byte_)
abbrev Toctet_Open : Type := (List Eng.V) → (Bool → (List Eng.V) → Bool → Bool → Prop) → Prop
def Yoctet_Open (xslices_Clone___byte_byte_ : Tslices_Clone___byte_byte_) (a0 : (List Eng.V)) (K : Bool → (List Eng.V) → Bool → Bool → Prop) : Prop :=
 xslices_Clone___byte_byte_ a0 (fun r1 r2 r3 =>
 K false r1 r2 r3)
def Xoctet_Open : Toctet_Open := Yoctet_Open Xslices_Clone___byte_byte_
def Joctet_Open (X : Toctet_Open) : Inst := mkI 63 upL3 .nil upL6 upH7 X
def Ioctet_Open : Inst := Joctet_Open Xoctet_Open
theorem Eoctet_Open (xslices_Clone___byte_byte_ : Tslices_Clone___byte_byte_) : EqF Tryz.prog 7 gives Tryz.f63 [Jslices_Clone___byte_byte_ xslices_Clone___byte_byte_] [] (Joctet_Open (Yoctet_Open xslices_Clone___byte_byte_)) := fun x y K => by kernel_rfl
theorem Ioctet_Open_ok : InstOk Tryz.prog G.1 Ioctet_Open := iok (gives := gives) [] (okCons Islices_Clone___byte_byte__ok okNil) 7 follows Tryz.func63 (by kernel_rfl) (fun x => by kernel_rfl) (Eoctet_Open Xslices_Clone___byte_byte_)
abbrev Toctet_may : Type := Int → Int → (Bool → Prop) → Prop
def Yoctet_may (a0 : Int) (a1 : Int) (K : Bool → Prop) : Prop :=
 (if (a1 == 1) then
 K (a0 == w64 (wu8 a0))
 else
 (if (a1 == 4) then
 (if (a0 != w64 (wi32 a0)) then
 K false
 else
 K true)
 else
 (if (a1 == 8) then
 K true
 else
 K false)))
def Xoctet_may : Toctet_may := Yoctet_may
def Joctet_may (X : Toctet_may) : Inst := mkI 127 upL8 .nil upL9 .nil X
def Ioctet_may : Inst := Joctet_may Xoctet_may
theorem Eoctet_may : EqF Tryz.prog 22 gives Tryz.f127 [] [] (Joctet_may (Yoctet_may)) := fun x y K => by kernel_rfl
theorem Ioctet_may_ok : InstOk Tryz.prog G.1 Ioctet_may := iok (gives := gives) [] okNil 22 follows Tryz.func127 (by kernel_rfl) (fun x => by kernel_rfl) (Eoctet_may)
abbrev Toctet_Reader_Take : Type := Int → Bool → (List Eng.V) → Bool → Bool → (Bool → (List Eng.V) → Bool → Bool → (List Eng.V) → Bool → Bool → Prop) → Prop
def Yoctet_Reader_Take (xslices_Clone___byte_byte_ : Tslices_Clone___byte_byte_) (a0 : Int) (a1 : Bool) (a2 : (List Eng.V)) (a3 : Bool) (a4 : Bool) (K : Bool → (List Eng.V) → Bool → Bool → (List Eng.V) → Bool → Bool → Prop) : Prop :=
 (if a1 then
 K true [] true true [] true true
 else
 (if decide (a0 < 0) then
 K true [] true true [] true true
 else
 (if decide (a0 > (↑(List.length a2) : Int)) then
 K true [] true true [] true true
 else
 (if 0 ≤ a0 ∧ a0 ≤ (↑(List.length a2) : Int) then
 (if (0 :Int) ≤ 0 ∧ 0 ≤ a0 then
 xslices_Clone___byte_byte_ (Eng.cutL a2 (0 : Nat) (Int.toNat a0 - (0 : Nat))) (fun r5 r6 r7 =>
 (if 0 ≤ (↑(List.length a2) : Int) ∧ (↑(List.length a2) : Int) ≤ (↑(List.length a2) : Int) then
 (if 0 ≤ a0 ∧ a0 ≤ (↑(List.length a2) : Int) then
 K a1 r5 r6 r7 (Eng.cutL a2 (Int.toNat a0) (Int.toNat (↑(List.length a2) : Int) - Int.toNat a0)) false true
 else
 False)
 else
 False))
 else
 False)
 else
 False))))
def Xoctet_Reader_Take : Toctet_Reader_Take := Yoctet_Reader_Take Xslices_Clone___byte_byte_
def Joctet_Reader_Take (X : Toctet_Reader_Take) : Inst := mkI 66 upL10 upH7 upL11 upH12 X
def Ioctet_Reader_Take : Inst := Joctet_Reader_Take Xoctet_Reader_Take
theorem Eoctet_Reader_Take (xslices_Clone___byte_byte_ : Tslices_Clone___byte_byte_) : EqF Tryz.prog 46 gives Tryz.f66 [Jslices_Clone___byte_byte_ xslices_Clone___byte_byte_] [] (Joctet_Reader_Take (Yoctet_Reader_Take xslices_Clone___byte_byte_)) := fun x y K => by kernel_rfl
theorem Ioctet_Reader_Take_ok : InstOk Tryz.prog G.1 Ioctet_Reader_Take := iok (gives := gives) [] (okCons Islices_Clone___byte_byte__ok okNil) 46 follows Tryz.func66 (by kernel_rfl) (fun x => by kernel_rfl) (Eoctet_Reader_Take Xslices_Clone___byte_byte_)
abbrev Toctet_Reader_Num : Type := Int → Bool → (List Eng.V) → Bool → Bool → (Int → Bool → (List Eng.V) → Bool → Bool → Prop) → Prop
def Loctet_Reader_Num_0 (K : Int → Bool → (List Eng.V) → Bool → Bool → Prop) (a1 : Bool) (a2 : (List Eng.V)) (a3 : Bool) (a4 : Bool) : (uQ13 → Prop) → uQ13 → Prop := fun k13 x14 =>
 (if decide (x14.1.2.2.2.2.1 < x14.1.2.2.2.1) then
 (if 0 ≤ x14.1.2.2.2.2.1 ∧ x14.1.2.2.2.2.1 < (↑(List.length x14.2.2.2.1.1) : Int) then
 (Eng.asInt IntKind.u8 (Eng.getC x14.2.2.2.1.1 (Int.toNat x14.1.2.2.2.2.1) (0 : Nat)) False fun n15 =>
 (if (x14.1.2.2.2.2.1 == 0) then
 (if (x14.1.1 == 4) then
 k13 ((x14.1.1, w64 (IntKind.wrap IntKind.i8 n15), (), x14.1.2.2.2.1, w64 (x14.1.2.2.2.2.1 + 1), ()), ((), x14.2.1.2), x14.2.2)
 else
 (lt (w64 (↑(BitVec.toNat (BitVec.ofInt (64 : Nat) (w64 (x14.1.2.1 * 256)) ||| BitVec.ofInt (64 : Nat) (w64 n15))) : Int)) fun v16 =>
 k13 ((x14.1.1, v16, (), x14.1.2.2.2.1, w64 (x14.1.2.2.2.2.1 + 1), ()), ((), x14.2.1.2), x14.2.2)))
 else
 (lt (w64 (↑(BitVec.toNat (BitVec.ofInt (64 : Nat) (w64 (x14.1.2.1 * 256)) ||| BitVec.ofInt (64 : Nat) (w64 n15))) : Int)) fun v17 =>
 k13 ((x14.1.1, v17, (), x14.1.2.2.2.1, w64 (x14.1.2.2.2.2.1 + 1), ()), ((), x14.2.1.2), x14.2.2))))
 else
 False)
 else
 K x14.1.2.1 x14.2.1.2.1 x14.2.2.1.1 x14.2.2.1.2.1 x14.2.2.1.2.2)
def Loctet_Reader_Num_0p : Lp := ⟨28690, [.trim 28690], upT14, upH15, 0⟩
def Yoctet_Reader_Num (xoctet_may : Toctet_may) (xoctet_Reader_Take : Toctet_Reader_Take) (a0 : Int) (a1 : Bool) (a2 : (List Eng.V)) (a3 : Bool) (a4 : Bool) (K : Int → Bool → (List Eng.V) → Bool → Bool → Prop) : Prop :=
 xoctet_may 0 a0 (fun r5 =>
 (if (!r5) then
 xoctet_Reader_Take (-1) a1 a2 a3 a4 (fun r6 r7 r8 r9 r10 r11 r12 =>
 lp (Loctet_Reader_Num_0 K a1 a2 a3 a4) (((-1), 0, (), (↑(List.length r7) : Int), 0, ()), ((), r6, ()), (r10, r11, r12), (r7, r8, r9), ()))
 else
 xoctet_Reader_Take a0 a1 a2 a3 a4 (fun r18 r19 r20 r21 r22 r23 r24 =>
 lp (Loctet_Reader_Num_0 K a1 a2 a3 a4) ((a0, 0, (), (↑(List.length r19) : Int), 0, ()), ((), r18, ()), (r22, r23, r24), (r19, r20, r21), ()))))
def Xoctet_Reader_Num : Toctet_Reader_Num := Yoctet_Reader_Num Xoctet_may Xoctet_Reader_Take
def Joctet_Reader_Num (X : Toctet_Reader_Num) : Inst := mkI 64 upL10 upH7 upL2 upH7 X
def Ioctet_Reader_Num : Inst := Joctet_Reader_Num Xoctet_Reader_Num
theorem Eoctet_Reader_Num (xoctet_may : Toctet_may) (xoctet_Reader_Take : Toctet_Reader_Take) : EqF Tryz.prog 35 gives Tryz.f64 [Joctet_may xoctet_may, Joctet_Reader_Take xoctet_Reader_Take] [Loctet_Reader_Num_0p] (Joctet_Reader_Num (Yoctet_Reader_Num xoctet_may xoctet_Reader_Take)) := fun x y K => by kernel_rfl
theorem Ioctet_Reader_Num_ok : InstOk Tryz.prog G.1 Ioctet_Reader_Num := iok (gives := gives) [Loctet_Reader_Num_0p] (okCons Ioctet_may_ok (okCons Ioctet_Reader_Take_ok okNil)) 35 follows Tryz.func64 (by kernel_rfl) (fun x => by kernel_rfl) (Eoctet_Reader_Num Xoctet_may Xoctet_Reader_Take)
abbrev Toctet_Reader_Take_1 : Type := Int → (List Eng.V) → Bool → (Bool → (List Eng.V) → Bool → Bool → (List Eng.V) → Bool → Bool → Prop) → Prop
def Yoctet_Reader_Take_1 (xslices_Clone___byte_byte_ : Tslices_Clone___byte_byte_) (a0 : Int) (a1 : (List Eng.V)) (a2 : Bool) (K : Bool → (List Eng.V) → Bool → Bool → (List Eng.V) → Bool → Bool → Prop) : Prop :=
 (if a2 then
 K true [] true true [] true true
 else
 (if decide (a0 < 0) then
 K true [] true true [] true true
 else
 (if decide (a0 > (↑(List.length a1) : Int)) then
 K true [] true true [] true true
 else
 (if 0 ≤ a0 ∧ a0 ≤ (↑(List.length a1) : Int) then
 (if (0 :Int) ≤ 0 ∧ 0 ≤ a0 then
 xslices_Clone___byte_byte_ (Eng.cutL a1 (0 : Nat) (Int.toNat a0 - (0 : Nat))) (fun r3 r4 r5 =>
 (if 0 ≤ (↑(List.length a1) : Int) ∧ (↑(List.length a1) : Int) ≤ (↑(List.length a1) : Int) then
 (if 0 ≤ a0 ∧ a0 ≤ (↑(List.length a1) : Int) then
 K a2 r3 r4 r5 (Eng.cutL a1 (Int.toNat a0) (Int.toNat (↑(List.length a1) : Int) - Int.toNat a0)) false true
 else
 False)
 else
 False))
 else
 False)
 else
 False))))
def Xoctet_Reader_Take_1 : Toctet_Reader_Take_1 := Yoctet_Reader_Take_1 Xslices_Clone___byte_byte_
def Joctet_Reader_Take_1 (X : Toctet_Reader_Take_1) : Inst := mkI 66 upL10 upH16 upL11 upH12 X
def Ioctet_Reader_Take_1 : Inst := Joctet_Reader_Take_1 Xoctet_Reader_Take_1
theorem Eoctet_Reader_Take_1 (xslices_Clone___byte_byte_ : Tslices_Clone___byte_byte_) : EqF Tryz.prog 46 gives Tryz.f66 [Jslices_Clone___byte_byte_ xslices_Clone___byte_byte_] [] (Joctet_Reader_Take_1 (Yoctet_Reader_Take_1 xslices_Clone___byte_byte_)) := fun x y K => by kernel_rfl
theorem Ioctet_Reader_Take_1_ok : InstOk Tryz.prog G.1 Ioctet_Reader_Take_1 := iok (gives := gives) [] (okCons Islices_Clone___byte_byte__ok okNil) 46 follows Tryz.func66 (by kernel_rfl) (fun x => by kernel_rfl) (Eoctet_Reader_Take_1 Xslices_Clone___byte_byte_)
abbrev Toctet_Reader_Num_1 : Type := Int → (List Eng.V) → Bool → (Int → Bool → (List Eng.V) → Bool → Bool → Prop) → Prop
def Loctet_Reader_Num_1_0 (K : Int → Bool → (List Eng.V) → Bool → Bool → Prop) (a1 : (List Eng.V)) (a2 : Bool) : (uQ13 → Prop) → uQ13 → Prop := fun k11 x12 =>
 (if decide (x12.1.2.2.2.2.1 < x12.1.2.2.2.1) then
 (if 0 ≤ x12.1.2.2.2.2.1 ∧ x12.1.2.2.2.2.1 < (↑(List.length x12.2.2.2.1.1) : Int) then
 (Eng.asInt IntKind.u8 (Eng.getC x12.2.2.2.1.1 (Int.toNat x12.1.2.2.2.2.1) (0 : Nat)) False fun n13 =>
 (if (x12.1.2.2.2.2.1 == 0) then
 (if (x12.1.1 == 4) then
 k11 ((x12.1.1, w64 (IntKind.wrap IntKind.i8 n13), (), x12.1.2.2.2.1, w64 (x12.1.2.2.2.2.1 + 1), ()), ((), x12.2.1.2), x12.2.2)
 else
 (lt (w64 (↑(BitVec.toNat (BitVec.ofInt (64 : Nat) (w64 (x12.1.2.1 * 256)) ||| BitVec.ofInt (64 : Nat) (w64 n13))) : Int)) fun v14 =>
 k11 ((x12.1.1, v14, (), x12.1.2.2.2.1, w64 (x12.1.2.2.2.2.1 + 1), ()), ((), x12.2.1.2), x12.2.2)))
 else
 (lt (w64 (↑(BitVec.toNat (BitVec.ofInt (64 : Nat) (w64 (x12.1.2.1 * 256)) ||| BitVec.ofInt (64 : Nat) (w64 n13))) : Int)) fun v15 =>
 k11 ((x12.1.1, v15, (), x12.1.2.2.2.1, w64 (x12.1.2.2.2.2.1 + 1), ()), ((), x12.2.1.2), x12.2.2))))
 else
 False)
 else
 K x12.1.2.1 x12.2.1.2.1 x12.2.2.1.1 x12.2.2.1.2.1 x12.2.2.1.2.2)
def Loctet_Reader_Num_1_0p : Lp := ⟨28690, [.trim 28690], upT14, upH15, 0⟩
def Yoctet_Reader_Num_1 (xoctet_may : Toctet_may) (xoctet_Reader_Take_1 : Toctet_Reader_Take_1) (a0 : Int) (a1 : (List Eng.V)) (a2 : Bool) (K : Int → Bool → (List Eng.V) → Bool → Bool → Prop) : Prop :=
 xoctet_may 0 a0 (fun r3 =>
 (if (!r3) then
 xoctet_Reader_Take_1 (-1) a1 a2 (fun r4 r5 r6 r7 r8 r9 r10 =>
 lp (Loctet_Reader_Num_1_0 K a1 a2) (((-1), 0, (), (↑(List.length r5) : Int), 0, ()), ((), r4, ()), (r8, r9, r10), (r5, r6, r7), ()))
 else
 xoctet_Reader_Take_1 a0 a1 a2 (fun r16 r17 r18 r19 r20 r21 r22 =>
 lp (Loctet_Reader_Num_1_0 K a1 a2) ((a0, 0, (), (↑(List.length r17) : Int), 0, ()), ((), r16, ()), (r20, r21, r22), (r17, r18, r19), ()))))
def Xoctet_Reader_Num_1 : Toctet_Reader_Num_1 := Yoctet_Reader_Num_1 Xoctet_may Xoctet_Reader_Take_1
def Joctet_Reader_Num_1 (X : Toctet_Reader_Num_1) : Inst := mkI 64 upL10 upH16 upL2 upH7 X
def Ioctet_Reader_Num_1 : Inst := Joctet_Reader_Num_1 Xoctet_Reader_Num_1
theorem Eoctet_Reader_Num_1 (xoctet_may : Toctet_may) (xoctet_Reader_Take_1 : Toctet_Reader_Take_1) : EqF Tryz.prog 35 gives Tryz.f64 [Joctet_may xoctet_may, Joctet_Reader_Take_1 xoctet_Reader_Take_1] [Loctet_Reader_Num_1_0p] (Joctet_Reader_Num_1 (Yoctet_Reader_Num_1 xoctet_may xoctet_Reader_Take_1)) := fun x y K => by kernel_rfl
theorem Ioctet_Reader_Num_1_ok : InstOk Tryz.prog G.1 Ioctet_Reader_Num_1 := iok (gives := gives) [Loctet_Reader_Num_1_0p] (okCons Ioctet_may_ok (okCons Ioctet_Reader_Take_1_ok okNil)) 35 follows Tryz.func64 (by kernel_rfl) (fun x => by kernel_rfl) (Eoctet_Reader_Num_1 Xoctet_may Xoctet_Reader_Take_1)
abbrev Tabbr_At : Type := ByteArray → Int → (ByteArray → Bool → Prop) → Prop
def Yabbr_At (xstrings_Cut : Tstrings_Cut) (xabbr_Right : Tabbr_Right) (a0 : ByteArray) (a1 : Int) (K : ByteArray → Bool → Prop) : Prop :=
 (if decide (a1 < 0) then
 K (ByteArray.mk #[]) false
 else
 (if decide (a1 ≥ (↑(ByteArray.size a0) : Int)) then
 K (ByteArray.mk #[]) false
 else
 (if 0 ≤ (↑(ByteArray.size a0) : Int) ∧ (↑(ByteArray.size a0) : Int) ≤ (↑(ByteArray.size a0) : Int) then
 (if 0 ≤ a1 ∧ a1 ≤ (↑(ByteArray.size a0) : Int) then
 xstrings_Cut (ByteArray.extract a0 (Int.toNat a1) (Int.toNat (↑(ByteArray.size a0) : Int))) (ByteArray.mk #[(0 : UInt8)]) (fun r2 r3 r4 =>
 (if (!r4) then
 K (ByteArray.mk #[]) false
 else
 xabbr_Right r2 (fun r5 =>
 (if (!r5) then
 K (ByteArray.mk #[]) false
 else
 K r2 true))))
 else
 False)
 else
 False)))
def Xabbr_At : Tabbr_At := Yabbr_At Xstrings_Cut Xabbr_Right
def Jabbr_At (X : Tabbr_At) : Inst := mkI 67 upL22 .nil upL23 .nil X
def Iabbr_At : Inst := Jabbr_At Xabbr_At
theorem Eabbr_At (xstrings_Cut : Tstrings_Cut) (xabbr_Right : Tabbr_Right) : EqF Tryz.prog 33 gives Tryz.f67 [Jstrings_Cut xstrings_Cut, Jabbr_Right xabbr_Right] [] (Jabbr_At (Yabbr_At xstrings_Cut xabbr_Right)) := fun x y K => by kernel_rfl
theorem Iabbr_At_ok : InstOk Tryz.prog G.1 Iabbr_At := iok (gives := gives) [] (okCons Istrings_Cut_ok (okCons Iabbr_Right_ok okNil)) 33 follows Tryz.func67 (by kernel_rfl) (fun x => by kernel_rfl) (Eabbr_At Xstrings_Cut Xabbr_Right)
abbrev Tblock_marked_1 : Type := Int → (Bool → Prop) → Prop
def Yblock_marked_1 (a0 : Int) (K : Bool → Prop) : Prop :=
 K (decide (a0 > 1))
def Xblock_marked_1 : Tblock_marked_1 := Yblock_marked_1
def Jblock_marked_1 (X : Tblock_marked_1) : Inst := mkI 128 upL24 .nil upL9 .nil X
def Iblock_marked_1 : Inst := Jblock_marked_1 Xblock_marked_1
theorem Eblock_marked_1 : EqF Tryz.prog 5 gives Tryz.f128 [] [] (Jblock_marked_1 (Yblock_marked_1)) := fun x y K => by kernel_rfl
theorem Iblock_marked_1_ok : InstOk Tryz.prog G.1 Iblock_marked_1 := iok (gives := gives) [] okNil 5 follows Tryz.func128 (by kernel_rfl) (fun x => by kernel_rfl) (Eblock_marked_1)
abbrev Tslices_IndexFunc___byte_byte_ : Type := (List Eng.V) → (Int → Prop) → Prop
def Lslices_IndexFunc___byte_byte__0 (xblock_marked_1 : Tblock_marked_1) (K : Int → Prop) : (uQ25 → Prop) → uQ25 → Prop := fun k1 x2 =>
 (if decide (x2.1.2.2.2.2.1 < x2.1.2.2.2.1) then
 (if 0 ≤ x2.1.2.2.2.2.1 ∧ x2.1.2.2.2.2.1 < (↑(List.length x2.1.1) : Int) then
 (Eng.asInt IntKind.u8 (Eng.getC x2.1.1 (Int.toNat x2.1.2.2.2.2.1) (0 : Nat)) False fun n3 =>
 xblock_marked_1 n3 (fun r4 =>
 (if r4 then
 K x2.1.2.2.2.2.1
 else
 k1 ((x2.1.1, ((), ()), x2.1.2.2.1, x2.1.2.2.2.1, w64 (x2.1.2.2.2.2.1 + 1), ()), ()))))
 else
 False)
 else
 K (-1))
def Lslices_IndexFunc___byte_byte__0p : Lp := ⟨403, [.trim 403], upT26, .nil, 0⟩
def Yslices_IndexFunc___byte_byte_ (xblock_marked_1 : Tblock_marked_1) (a0 : (List Eng.V)) (K : Int → Prop) : Prop :=
 lp (Lslices_IndexFunc___byte_byte__0 xblock_marked_1 K) ((a0, ((), ()), 0, (↑(List.length a0) : Int), 0, ()), ())
def Xslices_IndexFunc___byte_byte_ : Tslices_IndexFunc___byte_byte_ := Yslices_IndexFunc___byte_byte_ Xblock_marked_1
def Jslices_IndexFunc___byte_byte_ (X : Tslices_IndexFunc___byte_byte_) : Inst := mkI 181 upL27 .nil upL2 .nil X
def Islices_IndexFunc___byte_byte_ : Inst := Jslices_IndexFunc___byte_byte_ Xslices_IndexFunc___byte_byte_
theorem Eslices_IndexFunc___byte_byte_ (xblock_marked_1 : Tblock_marked_1) : EqF Tryz.prog 19 gives Tryz.f181 [Jblock_marked_1 xblock_marked_1] [Lslices_IndexFunc___byte_byte__0p] (Jslices_IndexFunc___byte_byte_ (Yslices_IndexFunc___byte_byte_ xblock_marked_1)) := fun x y K => by kernel_rfl
theorem Islices_IndexFunc___byte_byte__ok : InstOk Tryz.prog G.1 Islices_IndexFunc___byte_byte_ := iok (gives := gives) [Lslices_IndexFunc___byte_byte__0p] (okCons Iblock_marked_1_ok okNil) 19 follows Tryz.func181 (by kernel_rfl) (fun x => by kernel_rfl) (Eslices_IndexFunc___byte_byte_ Xblock_marked_1)
abbrev Tslices_ContainsFunc___byte_byte_ : Type := (List Eng.V) → (Bool → Prop) → Prop
def Yslices_ContainsFunc___byte_byte_ (xslices_IndexFunc___byte_byte_ : Tslices_IndexFunc___byte_byte_) (a0 : (List Eng.V)) (K : Bool → Prop) : Prop :=
 xslices_IndexFunc___byte_byte_ a0 (fun r1 =>
 K (decide (r1 ≥ 0)))
def Xslices_ContainsFunc___byte_byte_ : Tslices_ContainsFunc___byte_byte_ := Yslices_ContainsFunc___byte_byte_ Xslices_IndexFunc___byte_byte_
def Jslices_ContainsFunc___byte_byte_ (X : Tslices_ContainsFunc___byte_byte_) : Inst := mkI 129 upL27 .nil upL9 .nil X
def Islices_ContainsFunc___byte_byte_ : Inst := Jslices_ContainsFunc___byte_byte_ Xslices_ContainsFunc___byte_byte_
theorem Eslices_ContainsFunc___byte_byte_ (xslices_IndexFunc___byte_byte_ : Tslices_IndexFunc___byte_byte_) : EqF Tryz.prog 9 gives Tryz.f129 [Jslices_IndexFunc___byte_byte_ xslices_IndexFunc___byte_byte_] [] (Jslices_ContainsFunc___byte_byte_ (Yslices_ContainsFunc___byte_byte_ xslices_IndexFunc___byte_byte_)) := fun x y K => by kernel_rfl
theorem Islices_ContainsFunc___byte_byte__ok : InstOk Tryz.prog G.1 Islices_ContainsFunc___byte_byte_ := iok (gives := gives) [] (okCons Islices_IndexFunc___byte_byte__ok okNil) 9 follows Tryz.func129 (by kernel_rfl) (fun x => by kernel_rfl) (Eslices_ContainsFunc___byte_byte_ Xslices_IndexFunc___byte_byte_)
abbrev Tblock_marked : Type := (List Eng.V) → (List Eng.V) → (Bool → Prop) → Prop
def Lblock_marked_0 (xslices_ContainsFunc___byte_byte_ : Tslices_ContainsFunc___byte_byte_) (K : Bool → Prop) : (uQ28 → Prop) → uQ28 → Prop := fun k2 x3 =>
 (if decide (x3.1.2.2.2.2.2.2.1 < x3.1.2.2.2.2.2.1) then
 (if 0 ≤ x3.1.2.2.2.2.2.2.1 ∧ x3.1.2.2.2.2.2.2.1 < (↑(List.length x3.1.2.2.2.2.1) : Int) then
 (Eng.asInt IntKind.u8 (Eng.getC x3.1.2.2.2.2.1 (Int.toNat x3.1.2.2.2.2.2.2.1) (0 : Nat)) False fun n4 =>
 (if (n4 == 1) then
 (if decide (x3.1.2.2.2.2.2.2.1 ≥ (↑(List.length x3.1.1) : Int)) then
 K false
 else
 (if 0 ≤ x3.1.2.2.2.2.2.2.1 ∧ x3.1.2.2.2.2.2.2.1 < (↑(List.length x3.1.1) : Int) then
 (Eng.asInt IntKind.u8 (Eng.getC x3.1.1 (Int.toNat x3.1.2.2.2.2.2.2.1) (0 : Nat)) False fun n5 =>
 (if (n5 != 1) then
 K false
 else
 k2 ((x3.1.1, x3.1.2.1, x3.1.2.2.1, ((), ()), x3.1.2.2.2.2.1, x3.1.2.2.2.2.2.1, w64 (x3.1.2.2.2.2.2.2.1 + 1), ()), ())))
 else
 False))
 else
 k2 ((x3.1.1, x3.1.2.1, x3.1.2.2.1, ((), ()), x3.1.2.2.2.2.1, x3.1.2.2.2.2.2.1, w64 (x3.1.2.2.2.2.2.2.1 + 1), ()), ())))
 else
 False)
 else
 xslices_ContainsFunc___byte_byte_ x3.1.1 (fun r6 =>
 (if (!r6) then
 xslices_ContainsFunc___byte_byte_ x3.1.2.1 (fun r7 =>
 K !r7)
 else
 K false)))
def Lblock_marked_0p : Lp := ⟨1843, [.trim 1843], upT29, .nil, 0⟩
def Yblock_marked (xslices_ContainsFunc___byte_byte_ : Tslices_ContainsFunc___byte_byte_) (a0 : (List Eng.V)) (a1 : (List Eng.V)) (K : Bool → Prop) : Prop :=
 lp (Lblock_marked_0 xslices_ContainsFunc___byte_byte_ K) ((a0, a1, false, ((), ()), a1, (↑(List.length a1) : Int), 0, ()), ())
def Xblock_marked : Tblock_marked := Yblock_marked Xslices_ContainsFunc___byte_byte_
def Jblock_marked (X : Tblock_marked) : Inst := mkI 68 upL30 .nil upL9 .nil X
def Iblock_marked : Inst := Jblock_marked Xblock_marked
theorem Eblock_marked (xslices_ContainsFunc___byte_byte_ : Tslices_ContainsFunc___byte_byte_) : EqF Tryz.prog 41 gives Tryz.f68 [Jslices_ContainsFunc___byte_byte_ xslices_ContainsFunc___byte_byte_] [Lblock_marked_0p] (Jblock_marked (Yblock_marked xslices_ContainsFunc___byte_byte_)) := fun x y K => by kernel_rfl
theorem Iblock_marked_ok : InstOk Tryz.prog G.1 Iblock_marked := iok (gives := gives) [Lblock_marked_0p] (okCons Islices_ContainsFunc___byte_byte__ok okNil) 41 follows Tryz.func68 (by kernel_rfl) (fun x => by kernel_rfl) (Eblock_marked Xslices_ContainsFunc___byte_byte_)
abbrev Tblock_types_1 : Type := Int → Bool → (List Eng.V) → Bool → Bool → (Bool → Bool → (List Eng.V) → Bool → Bool → (List Eng.V) → Bool → Bool → (List Eng.V) → Bool → Bool → Prop) → Prop
def Lblock_types_1_0 (xoctet_Reader_Num_1 : Toctet_Reader_Num_1) (xoctet_Reader_Num : Toctet_Reader_Num) (K : Bool → Bool → (List Eng.V) → Bool → Bool → (List Eng.V) → Bool → Bool → (List Eng.V) → Bool → Bool → Prop) (a1 : Bool) (a2 : (List Eng.V)) (a3 : Bool) (a4 : Bool) : (uQ31 → Prop) → uQ31 → Prop := fun k5 x6 =>
 (if decide (x6.1.2.2.2.2.2.1 < x6.1.2.2.2.2.1) then
 xoctet_Reader_Num_1 4 x6.2.1.1 x6.2.1.2.1 (fun r7 r8 r9 r10 r11 =>
 xoctet_Reader_Num 1 r8 r9 r10 r11 (fun r12 r13 r14 r15 r16 =>
 (if Eng.roomOk (List.length x6.2.2.2.1 + List.length [Eng.V.agg [Eng.V.c (Value.int IntKind.i64 r7), Eng.V.c (Value.bool (r12 == 1)), Eng.V.c (Value.string (ByteArray.mk #[]))]]) (32 : Nat) then
 (lt (x6.2.2.2.1 ++ [Eng.V.agg [Eng.V.c (Value.int IntKind.i64 r7), Eng.V.c (Value.bool (r12 == 1)), Eng.V.c (Value.string (ByteArray.mk #[]))]]) fun v17 =>
 xoctet_Reader_Num 1 r13 r14 r15 r16 (fun r18 r19 r20 r21 r22 =>
 (if Eng.roomOk (List.length x6.2.2.2.2.1 + List.length [Eng.V.c (Value.int IntKind.i64 r18)]) (8 : Nat) then
 (if x6.1.2.2.2.1 then
 k5 (((), (), (), decide (r12 < 2), x6.1.2.2.2.2.1, w64 (x6.1.2.2.2.2.2.1 + 1), ()), (r20, r19, ()), (x6.2.2.1.1, x6.2.2.1.2.1, true), v17, x6.2.2.2.2.1 ++ [Eng.V.c (Value.int IntKind.i64 r18)], ())
 else
 k5 (((), (), (), false, x6.1.2.2.2.2.1, w64 (x6.1.2.2.2.2.2.1 + 1), ()), (r20, r19, ()), (x6.2.2.1.1, x6.2.2.1.2.1, true), v17, x6.2.2.2.2.1 ++ [Eng.V.c (Value.int IntKind.i64 r18)], ()))
 else
 False)))
 else
 False)))
 else
 K x6.1.2.2.2.1 x6.2.1.2.1 x6.2.2.2.1 true false x6.2.2.2.2.1 true false x6.2.1.1 false true)
def Lblock_types_1_0p : Lp := ⟨1649, [.trim 1649, .thin 1, .trim 1649, .thin 480, .trim 1649, .fat 4 3 672, .trim 1649, .fat 5 1 688, .trim 1649], upT18, upH32, 0⟩
def Yblock_types_1 (xoctet_Reader_Num_1 : Toctet_Reader_Num_1) (xoctet_Reader_Num : Toctet_Reader_Num) (a0 : Int) (a1 : Bool) (a2 : (List Eng.V)) (a3 : Bool) (a4 : Bool) (K : Bool → Bool → (List Eng.V) → Bool → Bool → (List Eng.V) → Bool → Bool → (List Eng.V) → Bool → Bool → Prop) : Prop :=
 lp (Lblock_types_1_0 xoctet_Reader_Num_1 xoctet_Reader_Num K a1 a2 a3 a4) (((), (), (), true, a0, 0, ()), (a2, a1, ()), (a2, a3, true), [], [], ())
def Xblock_types_1 : Tblock_types_1 := Yblock_types_1 Xoctet_Reader_Num_1 Xoctet_Reader_Num
def Jblock_types_1 (X : Tblock_types_1) : Inst := mkI 65 upL10 upH7 upL20 upH21 X
def Iblock_types_1 : Inst := Jblock_types_1 Xblock_types_1
theorem Eblock_types_1 (xoctet_Reader_Num_1 : Toctet_Reader_Num_1) (xoctet_Reader_Num : Toctet_Reader_Num) : EqF Tryz.prog 38 gives Tryz.f65 [Joctet_Reader_Num_1 xoctet_Reader_Num_1, Joctet_Reader_Num xoctet_Reader_Num] [Lblock_types_1_0p] (Jblock_types_1 (Yblock_types_1 xoctet_Reader_Num_1 xoctet_Reader_Num)) := fun x y K => by kernel_rfl
theorem Iblock_types_1_ok : InstOk Tryz.prog G.1 Iblock_types_1 := iok (gives := gives) [Lblock_types_1_0p] (okCons Ioctet_Reader_Num_1_ok (okCons Ioctet_Reader_Num_ok okNil)) 38 follows Tryz.func65 (by kernel_rfl) (fun x => by kernel_rfl) (Eblock_types_1 Xoctet_Reader_Num_1 Xoctet_Reader_Num)
abbrev Tblock_Decode : Type := uQ0 → (List Eng.V) → Int → (uQ33 → Bool → (List Eng.V) → Bool → Bool → (List Eng.V) → Bool → Bool → (List Eng.V) → Bool → Bool → Prop) → Prop
def Lblock_Decode_11 (xoctet_Reader_Num : Toctet_Reader_Num) (xoctet_Reader_Take : Toctet_Reader_Take) (xblock_marked : Tblock_marked) (K : uQ33 → Bool → (List Eng.V) → Bool → Bool → (List Eng.V) → Bool → Bool → (List Eng.V) → Bool → Bool → Prop) (k136 : uQ34 → Prop) (k143 : uQ34 → Prop) (k168 : uQ35 → Prop) : (uQ36 → Prop) → uQ36 → Prop := fun k173 x174 =>
 (if decide (x174.1.2.2.2.2.2.2.2.2.1 < x174.1.2.2.2.2.2.2.2.1) then
 xoctet_Reader_Num x174.1.1 x174.2.2.2.2.1.2.1 x174.2.2.2.2.2.2.2.1.1 x174.2.2.2.2.2.2.2.1.2.1 x174.2.2.2.2.2.2.2.1.2.2 (fun r175 r176 r177 r178 r179 =>
 xoctet_Reader_Num 4 r176 r177 r178 r179 (fun r180 r181 r182 r183 r184 =>
 (if Eng.roomOk (List.length x174.2.2.2.2.2.2.2.2.1 + List.length [Eng.V.agg [Eng.V.c (Value.int IntKind.i64 r175), Eng.V.c (Value.int IntKind.i64 r180)]]) (16 : Nat) then
 k173 ((x174.1.1, (), (), x174.1.2.2.2.1, (), (), x174.1.2.2.2.2.2.2.1, x174.1.2.2.2.2.2.2.2.1, w64 (x174.1.2.2.2.2.2.2.2.2.1 + 1), ()), x174.2.1, x174.2.2.1, ((), (), (), x174.2.2.2.1.2.2.2), ((), r181, ()), x174.2.2.2.2.2.1, x174.2.2.2.2.2.2.1, (r182, r183, r184), x174.2.2.2.2.2.2.2.2.1 ++ [Eng.V.agg [Eng.V.c (Value.int IntKind.i64 r175), Eng.V.c (Value.int IntKind.i64 r180)]], ())
 else
 False)))
 else
 xoctet_Reader_Take x174.2.1.2.2.1 x174.2.2.2.2.1.2.1 x174.2.2.2.2.2.2.2.1.1 x174.2.2.2.2.2.2.2.1.2.1 x174.2.2.2.2.2.2.2.1.2.2 (fun r185 r186 r187 r188 r189 r190 r191 =>
 xoctet_Reader_Take x174.2.1.2.1 r185 r189 r190 r191 (fun r192 r193 r194 r195 r196 r197 r198 =>
 xblock_marked r186 r193 (fun r199 =>
 (if (!r199) then
 K ((), (), (), ByteArray.mk #[], 0, ()) false [] true true [] true true [] true true
 else
 (if (!x174.1.2.2.2.2.2.2.1) then
 K ((), (), (), ByteArray.mk #[], 0, ()) false [] true true [] true true [] true true
 else
 K ((), (), (), x174.2.2.2.1.2.2.2) true x174.2.2.2.2.2.2.1.1 x174.2.2.2.2.2.2.1.2.1 x174.2.2.2.2.2.2.1.2.2 x174.2.2.2.2.2.1 true false x174.2.2.2.2.2.2.2.2.1 true false))))))
def Lblock_Decode_11p : Lp := ⟨1947111321950560360698936123492044, [.trim 1947111321950560360698936123492044, .trim 1947111321950560360698936123492044, .trim 1947111321950560360698936123492044, .trim 1947111321950560360698936123492044, .ren 1936 1360, .fatC 224 2 2 2672, .trim 1947111321950560360698936123492044], upT37, upH38, 0⟩
def Lblock_Decode_10 (xabbr_At : Tabbr_At) (xoctet_Reader_Num : Toctet_Reader_Num) (xoctet_Reader_Take : Toctet_Reader_Take) (xblock_marked : Tblock_marked) (K : uQ33 → Bool → (List Eng.V) → Bool → Bool → (List Eng.V) → Bool → Bool → (List Eng.V) → Bool → Bool → Prop) (k136 : uQ34 → Prop) (k143 : uQ34 → Prop) : (uQ35 → Prop) → uQ35 → Prop := fun k168 x169 =>
 (if decide (x169.1.2.2.2.2.2.2.2.2.2.2.2.1 < x169.1.2.2.2.2.2.2.2.2.2.2.1) then
 (if 0 ≤ x169.1.2.2.2.2.2.2.2.2.2.2.2.1 ∧ x169.1.2.2.2.2.2.2.2.2.2.2.2.1 < (↑(List.length x169.2.2.2.2.2.2.2.1.1) : Int) then
 (Eng.asInt IntKind.i64 (Eng.getC x169.2.2.2.2.2.2.2.1.1 (Int.toNat x169.1.2.2.2.2.2.2.2.2.2.2.2.1) (0 : Nat)) False fun n170 =>
 xabbr_At x169.1.2.2.2.2.2.2.2.2.2.1 n170 (fun r171 r172 =>
 (if 0 ≤ x169.1.2.2.2.2.2.2.2.2.2.2.2.1 ∧ x169.1.2.2.2.2.2.2.2.2.2.2.2.1 < (↑(List.length x169.2.2.2.2.2.2.1.1) : Int) then
 (if x169.2.2.2.2.2.2.1.2.2 = false then
 (if Int.toNat x169.1.2.2.2.2.2.2.2.2.2.2.2.1 < List.length x169.2.2.2.2.2.2.1.1 then
 (if x169.1.2.2.2.2.2.2.2.2.1 then
 k168 ((x169.1.1, (), (), x169.1.2.2.2.1, (), (), (), (), r172, x169.1.2.2.2.2.2.2.2.2.2.1, x169.1.2.2.2.2.2.2.2.2.2.2.1, w64 (x169.1.2.2.2.2.2.2.2.2.2.2.2.1 + 1), ()), x169.2.1, ((), (), (), x169.2.2.1.2.2.2), ((), (), (), x169.2.2.2.1.2.2.2), ((), x169.2.2.2.2.1.2), x169.2.2.2.2.2.1, (List.set x169.2.2.2.2.2.2.1.1 (Int.toNat x169.1.2.2.2.2.2.2.2.2.2.2.2.1) (Eng.setE (List.getD x169.2.2.2.2.2.2.1.1 (Int.toNat x169.1.2.2.2.2.2.2.2.2.2.2.2.1) Eng.V.bad) (2 : Nat) [Eng.V.c (Value.string r171)]), x169.2.2.2.2.2.2.1.2), x169.2.2.2.2.2.2.2)
 else
 k168 ((x169.1.1, (), (), x169.1.2.2.2.1, (), (), (), (), false, x169.1.2.2.2.2.2.2.2.2.2.1, x169.1.2.2.2.2.2.2.2.2.2.2.1, w64 (x169.1.2.2.2.2.2.2.2.2.2.2.2.1 + 1), ()), x169.2.1, ((), (), (), x169.2.2.1.2.2.2), ((), (), (), x169.2.2.2.1.2.2.2), ((), x169.2.2.2.2.1.2), x169.2.2.2.2.2.1, (List.set x169.2.2.2.2.2.2.1.1 (Int.toNat x169.1.2.2.2.2.2.2.2.2.2.2.2.1) (Eng.setE (List.getD x169.2.2.2.2.2.2.1.1 (Int.toNat x169.1.2.2.2.2.2.2.2.2.2.2.2.1) Eng.V.bad) (2 : Nat) [Eng.V.c (Value.string r171)]), x169.2.2.2.2.2.2.1.2), x169.2.2.2.2.2.2.2))
 else
 False)
 else
 False)
 else
 False)))
 else
 False)
 else
 lp (Lblock_Decode_11 xoctet_Reader_Num xoctet_Reader_Take xblock_marked K k136 k143 k168) ((x169.1.1, (), (), x169.1.2.2.2.1, (), (), x169.1.2.2.2.2.2.2.2.2.1, x169.2.1.2.2.2.1, 0, ()), x169.2.1, ([], [], [], x169.2.2.1.2.2.2), ((), (), (), x169.2.2.2.1.2.2.2), ((), x169.2.2.2.2.1.2), x169.2.2.2.2.2.1, x169.2.2.2.2.2.2.1, x169.2.2.2.2.2.2.2.2.1, [], ()))
def Lblock_Decode_10p : Lp := ⟨58028439341502200386021068, [.trim 58028439341502200386021068], upT39, upH40, 0⟩
def Lblock_Decode_9 (xoctet_Reader_Num : Toctet_Reader_Num) (xblock_types_1 : Tblock_types_1) (xoctet_Reader_Take : Toctet_Reader_Take) (xabbr_At : Tabbr_At) (xblock_marked : Tblock_marked) (K : uQ33 → Bool → (List Eng.V) → Bool → Bool → (List Eng.V) → Bool → Bool → (List Eng.V) → Bool → Bool → Prop) (k136 : uQ34 → Prop) : (uQ34 → Prop) → uQ34 → Prop := fun k143 x144 =>
 (if decide (x144.1.2.2.2.2.2.2.2.1 < x144.1.2.2.2.2.2.2.1) then
 xoctet_Reader_Num 1 x144.2.2.2.2.1.2.1 x144.2.2.2.2.2.1.1 x144.2.2.2.2.2.1.2.1 x144.2.2.2.2.2.1.2.2 (fun r145 r146 r147 r148 r149 =>
 (if 0 ≤ x144.1.2.2.2.2.2.2.2.1 ∧ x144.1.2.2.2.2.2.2.2.1 < (↑(List.length x144.2.2.2.2.2.2.1) : Int) then
 (if Int.toNat x144.1.2.2.2.2.2.2.2.1 < List.length x144.2.2.2.2.2.2.1 then
 k143 ((x144.1.1, (), (), x144.1.2.2.2.1, (), (), x144.1.2.2.2.2.2.2.1, w64 (x144.1.2.2.2.2.2.2.2.1 + 1), ()), x144.2.1, ((), (), (), x144.2.2.1.2.2.2), ((), (), (), x144.2.2.2.1.2.2.2), ((), r146, ()), (r147, r148, r149), List.set x144.2.2.2.2.2.2.1 (Int.toNat x144.1.2.2.2.2.2.2.2.1) (Eng.setE (List.getD x144.2.2.2.2.2.2.1 (Int.toNat x144.1.2.2.2.2.2.2.2.1) Eng.V.bad) (1 : Nat) [Eng.V.c (Value.int IntKind.i64 r145)]), ())
 else
 False)
 else
 False))
 else
 xblock_types_1 x144.2.1.2.2.2.2.2.1 x144.2.2.2.2.1.2.1 x144.2.2.2.2.2.1.1 x144.2.2.2.2.2.1.2.1 x144.2.2.2.2.2.1.2.2 (fun r150 r151 r152 r153 r154 r155 r156 r157 r158 r159 r160 =>
 xoctet_Reader_Take x144.2.1.2.2.2.2.2.2.1 r151 r158 r159 r160 (fun r161 r162 r163 r164 r165 r166 r167 =>
 (if Eng.allU8 r162 then
 lp (Lblock_Decode_10 xabbr_At xoctet_Reader_Num xoctet_Reader_Take xblock_marked K k136 k143) ((x144.1.1, (), (), x144.1.2.2.2.1, (), (), (), (), r150, Eng.packB r162, (↑(List.length r152) : Int), 0, ()), x144.2.1, ((), (), (), x144.2.2.1.2.2.2), ((), (), (), x144.2.2.2.1.2.2.2), ((), r161, ()), x144.2.2.2.2.2.2.1, (r152, r153, r154), (r155, r156, r157), (r165, r166, r167), ())
 else
 False))))
def Lblock_Decode_9p : Lp := ⟨864691128455136972, [.trim 864691128455136972, .trim 864691128455136972, .trim 864691128455136972, .ren 1120 609, .trim 864691128455136972], upT41, upH42, 0⟩
def Lblock_Decode_8 (xoctet_Reader_Num : Toctet_Reader_Num) (xblock_types_1 : Tblock_types_1) (xoctet_Reader_Take : Toctet_Reader_Take) (xabbr_At : Tabbr_At) (xblock_marked : Tblock_marked) (K : uQ33 → Bool → (List Eng.V) → Bool → Bool → (List Eng.V) → Bool → Bool → (List Eng.V) → Bool → Bool → Prop) : (uQ34 → Prop) → uQ34 → Prop := fun k136 x137 =>
 (if decide (x137.1.2.2.2.2.2.2.2.1 < x137.1.2.2.2.2.2.2.1) then
 xoctet_Reader_Num x137.1.1 x137.2.2.2.2.1.2.1 x137.2.2.2.2.2.1.1 x137.2.2.2.2.2.1.2.1 x137.2.2.2.2.2.1.2.2 (fun r138 r139 r140 r141 r142 =>
 (if 0 ≤ x137.1.2.2.2.2.2.2.2.1 ∧ x137.1.2.2.2.2.2.2.2.1 < (↑(List.length x137.2.2.2.2.2.2.1) : Int) then
 (if Int.toNat x137.1.2.2.2.2.2.2.2.1 < List.length x137.2.2.2.2.2.2.1 then
 k136 ((x137.1.1, (), (), x137.1.2.2.2.1, (), (), x137.1.2.2.2.2.2.2.1, w64 (x137.1.2.2.2.2.2.2.2.1 + 1), ()), x137.2.1, ((), (), (), x137.2.2.1.2.2.2), ((), (), (), x137.2.2.2.1.2.2.2), ((), r139, ()), (r140, r141, r142), List.set x137.2.2.2.2.2.2.1 (Int.toNat x137.1.2.2.2.2.2.2.2.1) (Eng.setE (List.getD x137.2.2.2.2.2.2.1 (Int.toNat x137.1.2.2.2.2.2.2.2.1) Eng.V.bad) (0 : Nat) [Eng.V.c (Value.int IntKind.i64 r138)]), ())
 else
 False)
 else
 False))
 else
 lp (Lblock_Decode_9 xoctet_Reader_Num xblock_types_1 xoctet_Reader_Take xabbr_At xblock_marked K k136) ((x137.1.1, (), (), x137.1.2.2.2.1, (), (), (↑(List.length x137.2.2.2.2.2.2.1) : Int), 0, ()), x137.2.1, ((), (), (), x137.2.2.1.2.2.2), ((), (), (), x137.2.2.2.1.2.2.2), ((), x137.2.2.2.2.1.2), x137.2.2.2.2.2))
def Lblock_Decode_8p : Lp := ⟨26388279068364, [.trim 26388279068364, .trim 26388279068364, .trim 26388279068364, .ren 896 609, .trim 26388279068364], upT43, upH42, 0⟩
def Yblock_Decode (xhead_Size : Thead_Size) (xoctet_Open : Toctet_Open) (xoctet_Reader_Take : Toctet_Reader_Take) (xabbr_At : Tabbr_At) (xoctet_Reader_Num : Toctet_Reader_Num) (xblock_marked : Tblock_marked) (xblock_types_1 : Tblock_types_1) (a0 : uQ0) (a1 : (List Eng.V)) (a2 : Int) (K : uQ33 → Bool → (List Eng.V) → Bool → Bool → (List Eng.V) → Bool → Bool → (List Eng.V) → Bool → Bool → Prop) : Prop :=
 xhead_Size a0 a2 (fun r3 =>
 (if (r3 == 0) then
 K ((), (), (), ByteArray.mk #[], 0, ()) false [] true true [] true true [] true true
 else
 (if ((↑(List.length a1) : Int) != r3) then
 K ((), (), (), ByteArray.mk #[], 0, ()) false [] true true [] true true [] true true
 else
 xoctet_Open a1 (fun r4 r5 r6 r7 =>
 (
 (if 0 ≤ a0.2.2.2.2.1 ∧ a0.2.2.2.2.1 ≤ a0.2.2.2.2.1 ∧ a0.2.2.2.2.1 ≤ 4294967296 then
 (
 lp (Lblock_Decode_8 xoctet_Reader_Num xblock_types_1 xoctet_Reader_Take xabbr_At xblock_marked K) ((a2, (), (), false, (), (), (↑(List.length (List.replicate (Int.toNat a0.2.2.2.2.1) (Eng.ofVal (Value.agg #[Value.int IntKind.i64 0, Value.int IntKind.i64 0])))) : Int), 0, ()), a0, ((), (), (), ByteArray.mk #[], 0, ()), ((), (), (), ByteArray.mk #[], a0.1, ()), ((), r4, ()), (r5, r6, r7), List.replicate (Int.toNat a0.2.2.2.2.1) (Eng.ofVal (Value.agg #[Value.int IntKind.i64 0, Value.int IntKind.i64 0])), ())
 ∧
 lp (Lblock_Decode_8 xoctet_Reader_Num xblock_types_1 xoctet_Reader_Take xabbr_At xblock_marked K) ((a2, (), (), false, (), (), (↑(List.length (List.replicate (Int.toNat a0.2.2.2.2.1) (Eng.ofVal (Value.agg #[Value.int IntKind.i64 0, Value.int IntKind.i64 0])))) : Int), 0, ()), a0, ((), (), (), ByteArray.mk #[], 0, ()), ((), (), (), ByteArray.mk #[], a0.1, ()), ((), r4, ()), (r5, r6, r7), List.replicate (Int.toNat a0.2.2.2.2.1) (Eng.ofVal (Value.agg #[Value.int IntKind.i64 0, Value.int IntKind.i64 0])), ()))
 else
 False)
 ∧
 (if 0 ≤ a0.2.2.2.2.1 ∧ a0.2.2.2.2.1 ≤ a0.2.2.2.2.1 ∧ a0.2.2.2.2.1 ≤ 4294967296 then
 lp (Lblock_Decode_8 xoctet_Reader_Num xblock_types_1 xoctet_Reader_Take xabbr_At xblock_marked K) ((a2, (), (), false, (), (), (↑(List.length (List.replicate (Int.toNat a0.2.2.2.2.1) (Eng.ofVal (Value.agg #[Value.int IntKind.i64 0, Value.int IntKind.i64 0])))) : Int), 0, ()), a0, ((), (), (), ByteArray.mk #[], 0, ()), ((), (), (), ByteArray.mk #[], a0.1, ()), ((), r4, ()), (r5, r6, r7), List.replicate (Int.toNat a0.2.2.2.2.1) (Eng.ofVal (Value.agg #[Value.int IntKind.i64 0, Value.int IntKind.i64 0])), ())
 else
 False))))))
def Xblock_Decode : Tblock_Decode := Yblock_Decode Xhead_Size Xoctet_Open Xoctet_Reader_Take Xabbr_At Xoctet_Reader_Num Xblock_marked Xblock_types_1
def Jblock_Decode (X : Tblock_Decode) : Inst := mkI 22 upL44 .nil upL45 upH46 X
def Iblock_Decode : Inst := Jblock_Decode Xblock_Decode
theorem Eblock_Decode (xhead_Size : Thead_Size) (xoctet_Open : Toctet_Open) (xoctet_Reader_Take : Toctet_Reader_Take) (xabbr_At : Tabbr_At) (xoctet_Reader_Num : Toctet_Reader_Num) (xblock_marked : Tblock_marked) (xblock_types_1 : Tblock_types_1) : EqF Tryz.prog 143 gives Tryz.f22 [Jhead_Size xhead_Size, Joctet_Open xoctet_Open, Joctet_Reader_Take xoctet_Reader_Take, Jabbr_At xabbr_At, Joctet_Reader_Num xoctet_Reader_Num, Jblock_marked xblock_marked, Jblock_types_1 xblock_types_1] [Lblock_Decode_8p, Lblock_Decode_9p, Lblock_Decode_10p, Lblock_Decode_11p] (Jblock_Decode (Yblock_Decode xhead_Size xoctet_Open xoctet_Reader_Take xabbr_At xoctet_Reader_Num xblock_marked xblock_types_1)) := fun x y K => by kernel_rfl
theorem Iblock_Decode_ok : InstOk Tryz.prog G.1 Iblock_Decode := iok (gives := gives) [Lblock_Decode_8p, Lblock_Decode_9p, Lblock_Decode_10p, Lblock_Decode_11p] (okCons Ihead_Size_ok (okCons Ioctet_Open_ok (okCons Ioctet_Reader_Take_ok (okCons Iabbr_At_ok (okCons Ioctet_Reader_Num_ok (okCons Iblock_marked_ok (okCons Iblock_types_1_ok okNil))))))) 143 follows Tryz.func22 (by kernel_rfl) (fun x => by kernel_rfl) (Eblock_Decode Xhead_Size Xoctet_Open Xoctet_Reader_Take Xabbr_At Xoctet_Reader_Num Xblock_marked Xblock_types_1)
abbrev Toctet_Put : Type := (List Eng.V) → Int → Int → (Bool → (List Eng.V) → Bool → Bool → Prop) → Prop
def Loctet_Put_0 (K : Bool → (List Eng.V) → Bool → Bool → Prop) : (uQ47 → Prop) → uQ47 → Prop := fun k7 x8 =>
 (if decide (x8.1.2.2.2.2.1 > 0) then
 (lt (w64 (8 * w64 (x8.1.2.2.2.2.1 - 1))) fun v9 =>
 (if v9 < 0 then
 False
 else
 (if x8.2.1.2.1 then
 (if Eng.roomOk (List.length x8.2.1.1 + List.length [Eng.V.c (Value.int IntKind.u8 (wu8 (Int.fdiv x8.1.1 (2 ^ Min.min (Int.toNat v9) (64 : Nat)))))]) (1 : Nat) then
 k7 ((x8.1.1, (), x8.1.2.2.1, (), w64 (x8.1.2.2.2.2.1 - 1), ()), (x8.2.1.1 ++ [Eng.V.c (Value.int IntKind.u8 (wu8 (Int.fdiv x8.1.1 (2 ^ Min.min (Int.toNat v9) (64 : Nat)))))], x8.2.1.2), ())
 else
 False)
 else
 False)))
 else
 K true x8.2.1.1 x8.2.1.2.1 x8.2.1.2.2)
def Loctet_Put_0p : Lp := ⟨962, [.trim 962], upT48, upH49, 0⟩
def Yoctet_Put (xslices_Clone___byte_byte_ : Tslices_Clone___byte_byte_) (xoctet_may : Toctet_may) (a0 : (List Eng.V)) (a1 : Int) (a2 : Int) (K : Bool → (List Eng.V) → Bool → Bool → Prop) : Prop :=
 xslices_Clone___byte_byte_ a0 (fun r3 r4 r5 =>
 xoctet_may a1 a2 (fun r6 =>
 (if (!r6) then
 K false r3 r4 r5
 else
 lp (Loctet_Put_0 K) ((a1, (), false, (), a2, ()), (r3, r4, r5), ()))))
def Xoctet_Put : Toctet_Put := Yoctet_Put Xslices_Clone___byte_byte_ Xoctet_may
def Joctet_Put (X : Toctet_Put) : Inst := mkI 98 upL50 .nil upL51 upH5 X
def Ioctet_Put : Inst := Joctet_Put Xoctet_Put
theorem Eoctet_Put (xslices_Clone___byte_byte_ : Tslices_Clone___byte_byte_) (xoctet_may : Toctet_may) : EqF Tryz.prog 32 gives Tryz.f98 [Jslices_Clone___byte_byte_ xslices_Clone___byte_byte_, Joctet_may xoctet_may] [Loctet_Put_0p] (Joctet_Put (Yoctet_Put xslices_Clone___byte_byte_ xoctet_may)) := fun x y K => by kernel_rfl
theorem Ioctet_Put_ok : InstOk Tryz.prog G.1 Ioctet_Put := iok (gives := gives) [Loctet_Put_0p] (okCons Islices_Clone___byte_byte__ok (okCons Ioctet_may_ok okNil)) 32 follows Tryz.func98 (by kernel_rfl) (fun x => by kernel_rfl) (Eoctet_Put Xslices_Clone___byte_byte_ Xoctet_may)
abbrev Thead_Encode : Type := uQ0 → (Bool → (List Eng.V) → Bool → Bool → Prop) → Prop
def Lhead_Encode_0 (xoctet_Put : Toctet_Put) (K : Bool → (List Eng.V) → Bool → Bool → Prop) : (uQ52 → Prop) → uQ52 → Prop := fun k2 x3 =>
 (if decide (x3.1.2.2.2.2.1 < 6) then
 (if 0 ≤ x3.1.2.2.2.2.1 ∧ x3.1.2.2.2.2.1 < 6 then
 (Eng.asInt IntKind.i64 ([Eng.V.c (Value.int IntKind.i64 x3.1.2.2.2.1.1), Eng.V.c (Value.int IntKind.i64 x3.1.2.2.2.1.2.1), Eng.V.c (Value.int IntKind.i64 x3.1.2.2.2.1.2.2.1), Eng.V.c (Value.int IntKind.i64 x3.1.2.2.2.1.2.2.2.1), Eng.V.c (Value.int IntKind.i64 x3.1.2.2.2.1.2.2.2.2.1), Eng.V.c (Value.int IntKind.i64 x3.1.2.2.2.1.2.2.2.2.2.1)][Int.toNat x3.1.2.2.2.2.1 * (1 : Nat)]?) False fun n4 =>
 xoctet_Put x3.2.1.1 n4 4 (fun r5 r6 r7 r8 =>
 k2 (((), x3.1.2.1, (), x3.1.2.2.2.1, w64 (x3.1.2.2.2.2.1 + 1), ()), (r6, r7, r8), ())))
 else
 False)
 else
 K true x3.2.1.1 x3.2.1.2.1 x3.2.1.2.2)
def Lhead_Encode_0p : Lp := ⟨51539607580, [.trim 51539607580, .ren 720 224], upT53, upH54, 0⟩
def Yhead_Encode (xhead_Right : Thead_Right) (xoctet_Put : Toctet_Put) (a0 : uQ0) (K : Bool → (List Eng.V) → Bool → Bool → Prop) : Prop :=
 xhead_Right a0 (fun r1 =>
 (if (!r1) then
 K false [] true true
 else
 (if decide (a0.1 > 1) then
 lp (Lhead_Encode_0 xoctet_Put K) (((), false, (), a0.2, 0, ()), ([Eng.V.c (Value.int IntKind.u8 84), Eng.V.c (Value.int IntKind.u8 90), Eng.V.c (Value.int IntKind.u8 105), Eng.V.c (Value.int IntKind.u8 102), Eng.V.c (Value.int IntKind.u8 (wu8 (48 + wu8 a0.1))), Eng.V.c (Value.int IntKind.u8 0), Eng.V.c (Value.int IntKind.u8 0), Eng.V.c (Value.int IntKind.u8 0), Eng.V.c (Value.int IntKind.u8 0), Eng.V.c (Value.int IntKind.u8 0), Eng.V.c (Value.int IntKind.u8 0), Eng.V.c (Value.int IntKind.u8 0), Eng.V.c (Value.int IntKind.u8 0), Eng.V.c (Value.int IntKind.u8 0), Eng.V.c (Value.int IntKind.u8 0), Eng.V.c (Value.int IntKind.u8 0), Eng.V.c (Value.int IntKind.u8 0), Eng.V.c (Value.int IntKind.u8 0), Eng.V.c (Value.int IntKind.u8 0), Eng.V.c (Value.int IntKind.u8 0)], true, false), ())
 else
 lp (Lhead_Encode_0 xoctet_Put K) (((), false, (), a0.2, 0, ()), ([Eng.V.c (Value.int IntKind.u8 84), Eng.V.c (Value.int IntKind.u8 90), Eng.V.c (Value.int IntKind.u8 105), Eng.V.c (Value.int IntKind.u8 102), Eng.V.c (Value.int IntKind.u8 0), Eng.V.c (Value.int IntKind.u8 0), Eng.V.c (Value.int IntKind.u8 0), Eng.V.c (Value.int IntKind.u8 0), Eng.V.c (Value.int IntKind.u8 0), Eng.V.c (Value.int IntKind.u8 0), Eng.V.c (Value.int IntKind.u8 0), Eng.V.c (Value.int IntKind.u8 0), Eng.V.c (Value.int IntKind.u8 0), Eng.V.c (Value.int IntKind.u8 0), Eng.V.c (Value.int IntKind.u8 0), Eng.V.c (Value.int IntKind.u8 0), Eng.V.c (Value.int IntKind.u8 0), Eng.V.c (Value.int IntKind.u8 0), Eng.V.c (Value.int IntKind.u8 0), Eng.V.c (Value.int IntKind.u8 0)], true, false), ()))))
def Xhead_Encode : Thead_Encode := Yhead_Encode Xhead_Right Xoctet_Put
def Jhead_Encode (X : Thead_Encode) : Inst := mkI 38 upL55 .nil upL51 upH5 X
def Ihead_Encode : Inst := Jhead_Encode Xhead_Encode
theorem Ehead_Encode (xhead_Right : Thead_Right) (xoctet_Put : Toctet_Put) : EqF Tryz.prog 46 gives Tryz.f38 [Jhead_Right xhead_Right, Joctet_Put xoctet_Put] [Lhead_Encode_0p] (Jhead_Encode (Yhead_Encode xhead_Right xoctet_Put)) := fun x y K => by kernel_rfl
theorem Ihead_Encode_ok : InstOk Tryz.prog G.1 Ihead_Encode := iok (gives := gives) [Lhead_Encode_0p] (okCons Ihead_Right_ok (okCons Ioctet_Put_ok okNil)) 46 follows Tryz.func38 (by kernel_rfl) (fun x => by kernel_rfl) (Ehead_Encode Xhead_Right Xoctet_Put)
abbrev Tblock_writer_put_1 : Type := Int → Int → Bool → (List Eng.V) → Bool → Bool → (Bool → (List Eng.V) → Bool → Bool → Prop) → Prop
def Yblock_writer_put_1 (xoctet_Put : Toctet_Put) (a0 : Int) (a1 : Int) (a2 : Bool) (a3 : (List Eng.V)) (a4 : Bool) (a5 : Bool) (K : Bool → (List Eng.V) → Bool → Bool → Prop) : Prop :=
 xoctet_Put [] a0 a1 (fun r6 r7 r8 r9 =>
 (if a4 then
 (if Eng.roomOk (List.length a3 + List.length r7) (1 : Nat) then
 (if a2 then
 K true (a3 ++ r7) a4 a5
 else
 K (!r6) (a3 ++ r7) a4 a5)
 else
 False)
 else
 False))
def Xblock_writer_put_1 : Tblock_writer_put_1 := Yblock_writer_put_1 Xoctet_Put
def Jblock_writer_put_1 (X : Tblock_writer_put_1) : Inst := mkI 60 upL56 upH7 .nil upH7 X
def Iblock_writer_put_1 : Inst := Jblock_writer_put_1 Xblock_writer_put_1
theorem Eblock_writer_put_1 (xoctet_Put : Toctet_Put) : EqF Tryz.prog 34 gives Tryz.f60 [Joctet_Put xoctet_Put] [] (Jblock_writer_put_1 (Yblock_writer_put_1 xoctet_Put)) := fun x y K => by kernel_rfl
theorem Iblock_writer_put_1_ok : InstOk Tryz.prog G.1 Iblock_writer_put_1 := iok (gives := gives) [] (okCons Ioctet_Put_ok okNil) 34 follows Tryz.func60 (by kernel_rfl) (fun x => by kernel_rfl) (Eblock_writer_put_1 Xoctet_Put)
abbrev Tblock_mark : Type := Bool → (Int → Prop) → Prop
def Yblock_mark (a0 : Bool) (K : Int → Prop) : Prop :=
 (if a0 then
 K 1
 else
 K 0)
def Xblock_mark : Tblock_mark := Yblock_mark
def Jblock_mark (X : Tblock_mark) : Inst := mkI 61 upL9 .nil upL2 .nil X
def Iblock_mark : Inst := Jblock_mark Xblock_mark
theorem Eblock_mark : EqF Tryz.prog 4 gives Tryz.f61 [] [] (Jblock_mark (Yblock_mark)) := fun x y K => by kernel_rfl
theorem Iblock_mark_ok : InstOk Tryz.prog G.1 Iblock_mark := iok (gives := gives) [] okNil 4 follows Tryz.func61 (by kernel_rfl) (fun x => by kernel_rfl) (Eblock_mark)
abbrev Tblock_Encode : Type := uQ58 → Int → (Bool → (List Eng.V) → Bool → Bool → Prop) → Prop
def Lblock_Encode_3 (xblock_writer_put_1 : Tblock_writer_put_1) (K : Bool → (List Eng.V) → Bool → Bool → Prop) (k9 : uQ59 → Prop) (k17 : uQ59 → Prop) (k25 : uQ59 → Prop) : (uQ60 → Prop) → uQ60 → Prop := fun k44 x45 =>
 (if decide (x45.1.2.2.2.2.2.2.1 < x45.1.2.2.2.2.2.1) then
 (if 0 ≤ x45.1.2.2.2.2.2.2.1 ∧ x45.1.2.2.2.2.2.2.1 < (↑(List.length x45.1.2.2.2.2.1) : Int) then
 (Eng.asInt IntKind.i64 (Eng.getC x45.1.2.2.2.2.1 (Int.toNat x45.1.2.2.2.2.2.2.1) (0 : Nat)) False fun n46 =>
 (Eng.asInt IntKind.i64 (Eng.getC x45.1.2.2.2.2.1 (Int.toNat x45.1.2.2.2.2.2.2.1) (1 : Nat)) False fun n47 =>
 xblock_writer_put_1 n46 x45.1.1 x45.2.1.2.1 x45.2.2.1.1 x45.2.2.1.2.1 x45.2.2.1.2.2 (fun r48 r49 r50 r51 =>
 xblock_writer_put_1 n47 4 r48 r49 r50 r51 (fun r52 r53 r54 r55 =>
 k44 ((x45.1.1, (), x45.1.2.2.1, (), x45.1.2.2.2.2.1, x45.1.2.2.2.2.2.1, w64 (x45.1.2.2.2.2.2.2.1 + 1), ()), ((), r52, ()), (r53, r54, r55), ())))))
 else
 False)
 else
 (if x45.2.1.2.1 then
 K false [] true true
 else
 K true x45.2.2.1.1 x45.2.2.1.2.1 x45.2.2.1.2.2))
def Lblock_Encode_3p : Lp := ⟨17331160549995323848587741234, [.trim 17331160549995323848587741234, .trim 17331160549995323848587741234, .trim 17331160549995323848587741234, .ren 1712 2128, .trim 17331160549995323848587741234], upT61, upH62, 0⟩
def Lblock_Encode_2 (xblock_writer_put_1 : Tblock_writer_put_1) (xblock_mark : Tblock_mark) (K : Bool → (List Eng.V) → Bool → Bool → Prop) (k9 : uQ59 → Prop) (k17 : uQ59 → Prop) : (uQ59 → Prop) → uQ59 → Prop := fun k25 x26 =>
 (if decide (x26.1.2.2.2.2.2.2.2.2.2.1 < x26.1.2.2.2.2.2.2.2.2.1) then
 (if 0 ≤ x26.1.2.2.2.2.2.2.2.2.2.1 ∧ x26.1.2.2.2.2.2.2.2.2.2.1 < (↑(List.length x26.1.2.2.2.2.2.2.2.1) : Int) then
 (Eng.asInt IntKind.i64 (Eng.getC x26.1.2.2.2.2.2.2.2.1 (Int.toNat x26.1.2.2.2.2.2.2.2.2.2.1) (0 : Nat)) False fun n27 =>
 (Eng.asBool (Eng.getC x26.1.2.2.2.2.2.2.2.1 (Int.toNat x26.1.2.2.2.2.2.2.2.2.2.1) (1 : Nat)) False fun b28 =>
 (Eng.asStr (Eng.getC x26.1.2.2.2.2.2.2.2.1 (Int.toNat x26.1.2.2.2.2.2.2.2.2.2.1) (2 : Nat)) False fun t29 =>
 xblock_writer_put_1 n27 4 x26.2.2.1.2.1 x26.2.2.2.2.1.1 x26.2.2.2.2.1.2.1 x26.2.2.2.2.1.2.2 (fun r30 r31 r32 r33 =>
 xblock_mark b28 (fun r34 =>
 xblock_writer_put_1 r34 1 r30 r31 r32 r33 (fun r35 r36 r37 r38 =>
 (if 0 ≤ x26.1.2.2.2.2.2.2.2.2.2.1 ∧ x26.1.2.2.2.2.2.2.2.2.2.1 < (↑(List.length x26.2.2.2.1.1) : Int) then
 (Eng.asInt IntKind.i64 (Eng.getC x26.2.2.2.1.1 (Int.toNat x26.1.2.2.2.2.2.2.2.2.2.1) (0 : Nat)) False fun n39 =>
 xblock_writer_put_1 n39 1 r35 r36 r37 r38 (fun r40 r41 r42 r43 =>
 k25 ((x26.1.1, (), (), x26.1.2.2.2.1, x26.1.2.2.2.2.1, (), (), x26.1.2.2.2.2.2.2.2.1, x26.1.2.2.2.2.2.2.2.2.1, w64 (x26.1.2.2.2.2.2.2.2.2.2.1 + 1), ()), x26.2.1, ((), r40, ()), x26.2.2.2.1, (r41, r42, r43), ())))
 else
 False)))))))
 else
 False)
 else
 (if x26.2.2.2.2.1.2.1 then
 (if Eng.roomOk (List.length x26.2.2.2.2.1.1 + List.length (Eng.bytesV x26.1.2.2.2.2.1)) (1 : Nat) then
 lp (Lblock_Encode_3 xblock_writer_put_1 K k9 k17 k25) ((x26.1.1, (), x26.1.2.2.2.1, (), x26.2.1.2.2.1, (↑(List.length x26.2.1.2.2.1) : Int), 0, ()), ((), x26.2.2.1.2), (x26.2.2.2.2.1.1 ++ Eng.bytesV x26.1.2.2.2.2.1, x26.2.2.2.2.1.2), ())
 else
 False)
 else
 False))
def Lblock_Encode_2p : Lp := ⟨258254417031933725494, [.trim 258254417031933725494, .trim 258254417031933725494, .trim 258254417031933725494, .ren 1392 2128, .trim 258254417031933725494], upT63, upH64, 0⟩
def Lblock_Encode_1 (xblock_writer_put_1 : Tblock_writer_put_1) (xblock_mark : Tblock_mark) (K : Bool → (List Eng.V) → Bool → Bool → Prop) (k9 : uQ59 → Prop) : (uQ59 → Prop) → uQ59 → Prop := fun k17 x18 =>
 (if decide (x18.1.2.2.2.2.2.2.2.2.2.1 < x18.1.2.2.2.2.2.2.2.2.1) then
 (if 0 ≤ x18.1.2.2.2.2.2.2.2.2.2.1 ∧ x18.1.2.2.2.2.2.2.2.2.2.1 < (↑(List.length x18.1.2.2.2.2.2.2.2.1) : Int) then
 (Eng.asInt IntKind.i64 (Eng.getC x18.1.2.2.2.2.2.2.2.1 (Int.toNat x18.1.2.2.2.2.2.2.2.2.2.1) (0 : Nat)) False fun n19 =>
 (Eng.asInt IntKind.i64 (Eng.getC x18.1.2.2.2.2.2.2.2.1 (Int.toNat x18.1.2.2.2.2.2.2.2.2.2.1) (1 : Nat)) False fun n20 =>
 xblock_writer_put_1 n20 1 x18.2.2.1.2.1 x18.2.2.2.2.1.1 x18.2.2.2.2.1.2.1 x18.2.2.2.2.1.2.2 (fun r21 r22 r23 r24 =>
 k17 ((x18.1.1, (), (), x18.1.2.2.2.1, x18.1.2.2.2.2.1, (), (), x18.1.2.2.2.2.2.2.2.1, x18.1.2.2.2.2.2.2.2.2.1, w64 (x18.1.2.2.2.2.2.2.2.2.2.1 + 1), ()), x18.2.1, ((), r21, ()), x18.2.2.2.1, (r22, r23, r24), ()))))
 else
 False)
 else
 lp (Lblock_Encode_2 xblock_writer_put_1 xblock_mark K k9 k17) ((x18.1.1, (), (), x18.1.2.2.2.1, x18.1.2.2.2.2.1, (), (), x18.2.1.1, (↑(List.length x18.2.1.1) : Int), 0, ()), x18.2.1, ((), x18.2.2.1.2), x18.2.2.2))
def Lblock_Encode_1p : Lp := ⟨126100789566376758, [.trim 126100789566376758, .trim 126100789566376758, .trim 126100789566376758, .ren 1056 2128, .trim 126100789566376758], upT65, upH64, 0⟩
def Lblock_Encode_0 (xblock_writer_put_1 : Tblock_writer_put_1) (xblock_mark : Tblock_mark) (K : Bool → (List Eng.V) → Bool → Bool → Prop) : (uQ59 → Prop) → uQ59 → Prop := fun k9 x10 =>
 (if decide (x10.1.2.2.2.2.2.2.2.2.2.1 < x10.1.2.2.2.2.2.2.2.2.1) then
 (if 0 ≤ x10.1.2.2.2.2.2.2.2.2.2.1 ∧ x10.1.2.2.2.2.2.2.2.2.2.1 < (↑(List.length x10.1.2.2.2.2.2.2.2.1) : Int) then
 (Eng.asInt IntKind.i64 (Eng.getC x10.1.2.2.2.2.2.2.2.1 (Int.toNat x10.1.2.2.2.2.2.2.2.2.2.1) (0 : Nat)) False fun n11 =>
 (Eng.asInt IntKind.i64 (Eng.getC x10.1.2.2.2.2.2.2.2.1 (Int.toNat x10.1.2.2.2.2.2.2.2.2.2.1) (1 : Nat)) False fun n12 =>
 xblock_writer_put_1 n11 x10.1.1 x10.2.2.1.2.1 x10.2.2.2.2.1.1 x10.2.2.2.2.1.2.1 x10.2.2.2.2.1.2.2 (fun r13 r14 r15 r16 =>
 k9 ((x10.1.1, (), (), x10.1.2.2.2.1, x10.1.2.2.2.2.1, (), (), x10.1.2.2.2.2.2.2.2.1, x10.1.2.2.2.2.2.2.2.2.1, w64 (x10.1.2.2.2.2.2.2.2.2.2.1 + 1), ()), x10.2.1, ((), r13, ()), x10.2.2.2.1, (r14, r15, r16), ()))))
 else
 False)
 else
 lp (Lblock_Encode_1 xblock_writer_put_1 xblock_mark K k9) ((x10.1.1, (), (), x10.1.2.2.2.1, x10.1.2.2.2.2.1, (), (), x10.2.1.2.1, (↑(List.length x10.2.1.2.1) : Int), 0, ()), x10.2.1, ((), x10.2.2.1.2), x10.2.2.2))
def Lblock_Encode_0p : Lp := ⟨30786325580598, [.trim 30786325580598, .trim 30786325580598, .fatC 240 0 1 2128, .trim 30786325580598, .ren 880 2128], upT66, upH64, 0⟩
def Yblock_Encode (xblock_Count : Tblock_Count) (xblock_pool : Tblock_pool) (xblock_writer_put_1 : Tblock_writer_put_1) (xblock_mark : Tblock_mark) (a0 : uQ58) (a1 : Int) (K : Bool → (List Eng.V) → Bool → Bool → Prop) : Prop :=
 xblock_Count a0 (fun r2 r3 =>
 (if (!r3) then
 K false [] true true
 else
 (if (a1 != 4) then
 (if (a1 != 8) then
 K false [] true true
 else
 xblock_pool a0 (fun r4 r5 r6 r7 r8 =>
 lp (Lblock_Encode_0 xblock_writer_put_1 xblock_mark K) ((a1, (), (), false, r4, (), (), a0.2.1, (↑(List.length a0.2.1) : Int), 0, ()), a0, ((), false, ()), (r6, r7, r8), ([], true, false), ())))
 else
 xblock_pool a0 (fun r56 r57 r58 r59 r60 =>
 lp (Lblock_Encode_0 xblock_writer_put_1 xblock_mark K) ((a1, (), (), false, r56, (), (), a0.2.1, (↑(List.length a0.2.1) : Int), 0, ()), a0, ((), false, ()), (r58, r59, r60), ([], true, false), ())))))
def Xblock_Encode : Tblock_Encode := Yblock_Encode Xblock_Count Xblock_pool Xblock_writer_put_1 Xblock_mark
def Jblock_Encode (X : Tblock_Encode) : Inst := mkI 20 upL67 .nil upL51 upH5 X
def Iblock_Encode : Inst := Jblock_Encode Xblock_Encode
theorem Eblock_Encode (xblock_Count : Tblock_Count) (xblock_pool : Tblock_pool) (xblock_writer_put_1 : Tblock_writer_put_1) (xblock_mark : Tblock_mark) : EqF Tryz.prog 109 gives Tryz.f20 [Jblock_Count xblock_Count, Jblock_pool xblock_pool, Jblock_writer_put_1 xblock_writer_put_1, Jblock_mark xblock_mark] [Lblock_Encode_0p, Lblock_Encode_1p, Lblock_Encode_2p, Lblock_Encode_3p] (Jblock_Encode (Yblock_Encode xblock_Count xblock_pool xblock_writer_put_1 xblock_mark)) := fun x y K => by kernel_rfl
theorem Iblock_Encode_ok : InstOk Tryz.prog G.1 Iblock_Encode := iok (gives := gives) [Lblock_Encode_0p, Lblock_Encode_1p, Lblock_Encode_2p, Lblock_Encode_3p] (okCons Iblock_Count_ok (okCons Iblock_pool_ok (okCons Iblock_writer_put_1_ok (okCons Iblock_mark_ok okNil)))) 109 follows Tryz.func20 (by kernel_rfl) (fun x => by kernel_rfl) (Eblock_Encode Xblock_Count Xblock_pool Xblock_writer_put_1 Xblock_mark)
abbrev Tslices_Grow___byte_byte_ : Type := Int → ((List Eng.V) → Bool → Bool → Prop) → Prop
def Yslices_Grow___byte_byte_ (a0 : Int) (K : (List Eng.V) → Bool → Bool → Prop) : Prop :=
 (if decide (a0 < 0) then
 False
 else
 (if decide (w64 (a0 - 0) > 0) then
 (if 0 ≤ w64 (a0 - 0) ∧ w64 (a0 - 0) ≤ 4398046511104 then
 (if Eng.roomOk ((0 : Nat) + List.length (List.replicate (Int.toNat (w64 (a0 - 0))) (Eng.ofVal (Value.int IntKind.u8 0)))) (1 : Nat) then
 K [] true false
 else
 False)
 else
 False)
 else
 K [] true true))
def Xslices_Grow___byte_byte_ : Tslices_Grow___byte_byte_ := Yslices_Grow___byte_byte_
def Jslices_Grow___byte_byte_ (X : Tslices_Grow___byte_byte_) : Inst := mkI 99 upL68 .nil upL4 upH5 X
def Islices_Grow___byte_byte_ : Inst := Jslices_Grow___byte_byte_ Xslices_Grow___byte_byte_
theorem Eslices_Grow___byte_byte_ : EqF Tryz.prog 27 gives Tryz.f99 [] [] (Jslices_Grow___byte_byte_ (Yslices_Grow___byte_byte_)) := fun x y K => by kernel_rfl
theorem Islices_Grow___byte_byte__ok : InstOk Tryz.prog G.1 Islices_Grow___byte_byte_ := iok (gives := gives) [] okNil 27 follows Tryz.func99 (by kernel_rfl) (fun x => by kernel_rfl) (Eslices_Grow___byte_byte_)
abbrev Tslices_Concat___byte_byte_ : Type := (List Eng.V) → ((List Eng.V) → Bool → Bool → Prop) → Prop
def Lslices_Concat___byte_byte__1 (K : (List Eng.V) → Bool → Bool → Prop) (k1 : uQ69 → Prop) : (uQ70 → Prop) → uQ70 → Prop := fun k8 x9 =>
 (if decide (x9.1.2.2.2.2.1 < x9.1.2.2.2.1) then
 (if 0 ≤ x9.1.2.2.2.2.1 ∧ x9.1.2.2.2.2.1 < (↑(List.length x9.1.2.2.1) : Int) then
 (Eng.asSl (1 : Nat) (Eng.getC x9.1.2.2.1 (Int.toNat x9.1.2.2.2.2.1) (0 : Nat)) False fun l10 l11 =>
 (if x9.2.1.2.1 then
 (if Eng.roomOk (List.length x9.2.1.1 + List.length l11) (1 : Nat) then
 k8 (((), (), x9.1.2.2.1, x9.1.2.2.2.1, w64 (x9.1.2.2.2.2.1 + 1), ()), (x9.2.1.1 ++ l11, x9.2.1.2), ())
 else
 False)
 else
 False))
 else
 False)
 else
 K x9.2.1.1 x9.2.1.2.1 x9.2.1.2.2)
def Lslices_Concat___byte_byte__1p : Lp := ⟨234881092, [.trim 234881092], upT71, upH72, 0⟩
def Lslices_Concat___byte_byte__0 (xslices_Grow___byte_byte_ : Tslices_Grow___byte_byte_) (K : (List Eng.V) → Bool → Bool → Prop) : (uQ69 → Prop) → uQ69 → Prop := fun k1 x2 =>
 (if decide (x2.1.2.2.2.2.2.1 < x2.1.2.2.2.2.1) then
 (if 0 ≤ x2.1.2.2.2.2.2.1 ∧ x2.1.2.2.2.2.2.1 < (↑(List.length x2.1.2.2.2.1) : Int) then
 (Eng.asSl (1 : Nat) (Eng.getC x2.1.2.2.2.1 (Int.toNat x2.1.2.2.2.2.2.1) (0 : Nat)) False fun l3 l4 =>
 (if decide (w64 (x2.1.2.2.1 + (↑(List.length l4) : Int)) < 0) then
 False
 else
 k1 ((x2.1.1, (), w64 (x2.1.2.2.1 + (↑(List.length l4) : Int)), x2.1.2.2.2.1, x2.1.2.2.2.2.1, w64 (x2.1.2.2.2.2.2.1 + 1), ()), ())))
 else
 False)
 else
 xslices_Grow___byte_byte_ x2.1.2.2.1 (fun r5 r6 r7 =>
 lp (Lslices_Concat___byte_byte__1 K k1) (((), (), x2.1.1, (↑(List.length x2.1.1) : Int), 0, ()), (r5, r6, r7), ())))
def Lslices_Concat___byte_byte__0p : Lp := ⟨3597, [.trim 3597], upT73, .nil, 0⟩
def Yslices_Concat___byte_byte_ (xslices_Grow___byte_byte_ : Tslices_Grow___byte_byte_) (a0 : (List Eng.V)) (K : (List Eng.V) → Bool → Bool → Prop) : Prop :=
 lp (Lslices_Concat___byte_byte__0 xslices_Grow___byte_byte_ K) ((a0, (), 0, a0, (↑(List.length a0) : Int), 0, ()), ())
def Xslices_Concat___byte_byte_ : Tslices_Concat___byte_byte_ := Yslices_Concat___byte_byte_ Xslices_Grow___byte_byte_
def Jslices_Concat___byte_byte_ (X : Tslices_Concat___byte_byte_) : Inst := mkI 39 upL3 .nil upL4 upH5 X
def Islices_Concat___byte_byte_ : Inst := Jslices_Concat___byte_byte_ Xslices_Concat___byte_byte_
theorem Eslices_Concat___byte_byte_ (xslices_Grow___byte_byte_ : Tslices_Grow___byte_byte_) : EqF Tryz.prog 36 gives Tryz.f39 [Jslices_Grow___byte_byte_ xslices_Grow___byte_byte_] [Lslices_Concat___byte_byte__0p, Lslices_Concat___byte_byte__1p] (Jslices_Concat___byte_byte_ (Yslices_Concat___byte_byte_ xslices_Grow___byte_byte_)) := fun x y K => by kernel_rfl
theorem Islices_Concat___byte_byte__ok : InstOk Tryz.prog G.1 Islices_Concat___byte_byte_ := iok (gives := gives) [Lslices_Concat___byte_byte__0p, Lslices_Concat___byte_byte__1p] (okCons Islices_Grow___byte_byte__ok okNil) 36 follows Tryz.func39 (by kernel_rfl) (fun x => by kernel_rfl) (Eslices_Concat___byte_byte_ Xslices_Grow___byte_byte_)
abbrev Ttzif_part : Type := uQ58 → Int → (Bool → (List Eng.V) → Bool → Bool → Prop) → Prop
def Ytzif_part (xblock_Count : Tblock_Count) (xhead_Encode : Thead_Encode) (xblock_Encode : Tblock_Encode) (xslices_Concat___byte_byte_ : Tslices_Concat___byte_byte_) (a0 : uQ58) (a1 : Int) (K : Bool → (List Eng.V) → Bool → Bool → Prop) : Prop :=
 xblock_Count a0 (fun r2 r3 =>
 xhead_Encode r2 (fun r4 r5 r6 r7 =>
 xblock_Encode a0 a1 (fun r8 r9 r10 r11 =>
 xslices_Concat___byte_byte_ ([Eng.V.sl (1 : Nat) false r5, Eng.V.sl (1 : Nat) false r9]) (fun r12 r13 r14 =>
 (if r4 then
 K r8 r12 r13 r14
 else
 K false r12 r13 r14)))))
def Xtzif_part : Ttzif_part := Ytzif_part Xblock_Count Xhead_Encode Xblock_Encode Xslices_Concat___byte_byte_
def Jtzif_part (X : Ttzif_part) : Inst := mkI 37 upL67 .nil upL51 upH5 X
def Itzif_part : Inst := Jtzif_part Xtzif_part
theorem Etzif_part (xblock_Count : Tblock_Count) (xhead_Encode : Thead_Encode) (xblock_Encode : Tblock_Encode) (xslices_Concat___byte_byte_ : Tslices_Concat___byte_byte_) : EqF Tryz.prog 36 gives Tryz.f37 [Jblock_Count xblock_Count, Jhead_Encode xhead_Encode, Jblock_Encode xblock_Encode, Jslices_Concat___byte_byte_ xslices_Concat___byte_byte_] [] (Jtzif_part (Ytzif_part xblock_Count xhead_Encode xblock_Encode xslices_Concat___byte_byte_)) := fun x y K => by kernel_rfl
theorem Itzif_part_ok : InstOk Tryz.prog G.1 Itzif_part := iok (gives := gives) [] (okCons Iblock_Count_ok (okCons Ihead_Encode_ok (okCons Iblock_Encode_ok (okCons Islices_Concat___byte_byte__ok okNil)))) 36 follows Tryz.func37 (by kernel_rfl) (fun x => by kernel_rfl) (Etzif_part Xblock_Count Xhead_Encode Xblock_Encode Xslices_Concat___byte_byte_)
abbrev Ttzif_Encode : Type := uQ58 → (Bool → (List Eng.V) → Bool → Bool → Prop) → Prop
def Ytzif_Encode (xtzif_part : Ttzif_part) (xzone_Right : Tzone_Right) (xhead_Encode : Thead_Encode) (xhead_Size : Thead_Size) (xslices_Concat___byte_byte_ : Tslices_Concat___byte_byte_) (a0 : uQ58) (K : Bool → (List Eng.V) → Bool → Bool → Prop) : Prop :=
 (if (a0.2.2.2.2.1 == 1) then
 xtzif_part a0 4 (fun r1 r2 r3 r4 =>
 (if (!r1) then
 K false [] true true
 else
 xzone_Right a0 (fun r5 =>
 (if (!r5) then
 K false [] true true
 else
 (if (a0.2.2.2.2.1 == 1) then
 K true r2 r3 r4
 else
 xhead_Encode (a0.2.2.2.2.1, 0, 0, 0, 0, 1, 1, ()) (fun r6 r7 r8 r9 =>
 (if (↑((1 : Nat) + ByteArray.size a0.2.2.2.1) : Int) > 9223372036854775807 then
 False
 else
 (if (↑(ByteArray.size (ByteArray.mk #[(10 : UInt8)] ++ a0.2.2.2.1) + (1 : Nat)) : Int) > 9223372036854775807 then
 False
 else
 (lt (ByteArray.mk #[(10 : UInt8)] ++ a0.2.2.2.1 ++ ByteArray.mk #[(10 : UInt8)]) fun v10 =>
 (
 xhead_Size (a0.2.2.2.2.1, 0, 0, 0, 0, 1, 1, ()) 4 (fun r11 =>
 (dup (
 (if 0 ≤ r11 ∧ r11 ≤ r11 ∧ r11 ≤ 4294967296 then
 xslices_Concat___byte_byte_ ([Eng.V.sl (1 : Nat) false r7, Eng.V.sl (1 : Nat) false (List.replicate (Int.toNat r11) (Eng.ofVal (Value.int IntKind.u8 0))), Eng.V.sl (1 : Nat) false r2, Eng.V.sl (1 : Nat) false (Eng.bytesV v10)]) (fun r12 r13 r14 =>
 K true r12 r13 r14)
 else
 False))))
 ∧
 xhead_Size (a0.2.2.2.2.1, 0, 0, 0, 0, 1, 1, ()) 4 (fun r18 =>
 (if 0 ≤ r18 ∧ r18 ≤ r18 ∧ r18 ≤ 4294967296 then
 xslices_Concat___byte_byte_ ([Eng.V.sl (1 : Nat) false r7, Eng.V.sl (1 : Nat) false (List.replicate (Int.toNat r18) (Eng.ofVal (Value.int IntKind.u8 0))), Eng.V.sl (1 : Nat) false r2, Eng.V.sl (1 : Nat) false (Eng.bytesV v10)]) (fun r19 r20 r21 =>
 K true r19 r20 r21)
 else
 False))))))))))))
 else
 xtzif_part a0 8 (fun r22 r23 r24 r25 =>
 (if (!r22) then
 K false [] true true
 else
 xzone_Right a0 (fun r26 =>
 (if (!r26) then
 K false [] true true
 else
 (if (a0.2.2.2.2.1 == 1) then
 K true r23 r24 r25
 else
 xhead_Encode (a0.2.2.2.2.1, 0, 0, 0, 0, 1, 1, ()) (fun r27 r28 r29 r30 =>
 (if (↑((1 : Nat) + ByteArray.size a0.2.2.2.1) : Int) > 9223372036854775807 then
 False
 else
 (if (↑(ByteArray.size (ByteArray.mk #[(10 : UInt8)] ++ a0.2.2.2.1) + (1 : Nat)) : Int) > 9223372036854775807 then
 False
 else
 (lt (ByteArray.mk #[(10 : UInt8)] ++ a0.2.2.2.1 ++ ByteArray.mk #[(10 : UInt8)]) fun v31 =>
 (
 xhead_Size (a0.2.2.2.2.1, 0, 0, 0, 0, 1, 1, ()) 4 (fun r32 =>
 (dup (
 (if 0 ≤ r32 ∧ r32 ≤ r32 ∧ r32 ≤ 4294967296 then
 xslices_Concat___byte_byte_ ([Eng.V.sl (1 : Nat) false r28, Eng.V.sl (1 : Nat) false (List.replicate (Int.toNat r32) (Eng.ofVal (Value.int IntKind.u8 0))), Eng.V.sl (1 : Nat) false r23, Eng.V.sl (1 : Nat) false (Eng.bytesV v31)]) (fun r33 r34 r35 =>
 K true r33 r34 r35)
 else
 False))))
 ∧
 xhead_Size (a0.2.2.2.2.1, 0, 0, 0, 0, 1, 1, ()) 4 (fun r39 =>
 (if 0 ≤ r39 ∧ r39 ≤ r39 ∧ r39 ≤ 4294967296 then
 xslices_Concat___byte_byte_ ([Eng.V.sl (1 : Nat) false r28, Eng.V.sl (1 : Nat) false (List.replicate (Int.toNat r39) (Eng.ofVal (Value.int IntKind.u8 0))), Eng.V.sl (1 : Nat) false r23, Eng.V.sl (1 : Nat) false (Eng.bytesV v31)]) (fun r40 r41 r42 =>
 K true r40 r41 r42)
 else
 False)))))))))))))
def Xtzif_Encode : Ttzif_Encode := Ytzif_Encode Xtzif_part Xzone_Right Xhead_Encode Xhead_Size Xslices_Concat___byte_byte_
def Jtzif_Encode (X : Ttzif_Encode) : Inst := mkI 11 upL74 .nil upL51 upH5 X
def Itzif_Encode : Inst := Jtzif_Encode Xtzif_Encode
theorem Etzif_Encode (xtzif_part : Ttzif_part) (xzone_Right : Tzone_Right) (xhead_Encode : Thead_Encode) (xhead_Size : Thead_Size) (xslices_Concat___byte_byte_ : Tslices_Concat___byte_byte_) : EqF Tryz.prog 50 gives Tryz.f11 [Jtzif_part xtzif_part, Jzone_Right xzone_Right, Jhead_Encode xhead_Encode, Jhead_Size xhead_Size, Jslices_Concat___byte_byte_ xslices_Concat___byte_byte_] [] (Jtzif_Encode (Ytzif_Encode xtzif_part xzone_Right xhead_Encode xhead_Size xslices_Concat___byte_byte_)) := fun x y K => by kernel_rfl
theorem Itzif_Encode_ok : InstOk Tryz.prog G.1 Itzif_Encode := iok (gives := gives) [] (okCons Itzif_part_ok (okCons Izone_Right_ok (okCons Ihead_Encode_ok (okCons Ihead_Size_ok (okCons Islices_Concat___byte_byte__ok okNil))))) 50 follows Tryz.func11 (by kernel_rfl) (fun x => by kernel_rfl) (Etzif_Encode Xtzif_part Xzone_Right Xhead_Encode Xhead_Size Xslices_Concat___byte_byte_)
abbrev Thead_version : Type := Int → (Int → Prop) → Prop
def Yhead_version (a0 : Int) (K : Int → Prop) : Prop :=
 (if (a0 == 0) then
 K 1
 else
 (if decide (a0 ≥ 50) then
 (if decide (a0 ≤ 52) then
 K (w64 (a0 - 48))
 else
 K 0)
 else
 K 0))
def Xhead_version : Thead_version := Yhead_version
def Jhead_version (X : Thead_version) : Inst := mkI 203 upL2 .nil upL2 .nil X
def Ihead_version : Inst := Jhead_version Xhead_version
theorem Ehead_version : EqF Tryz.prog 15 gives Tryz.f203 [] [] (Jhead_version (Yhead_version)) := fun x y K => by kernel_rfl
theorem Ihead_version_ok : InstOk Tryz.prog G.1 Ihead_version := iok (gives := gives) [] okNil 15 follows Tryz.func203 (by kernel_rfl) (fun x => by kernel_rfl) (Ehead_version)
abbrev Toctet_Reader_Ok : Type := Bool → (List Eng.V) → Bool → Bool → (Bool → Bool → (List Eng.V) → Bool → Bool → Prop) → Prop
def Yoctet_Reader_Ok (a0 : Bool) (a1 : (List Eng.V)) (a2 : Bool) (a3 : Bool) (K : Bool → Bool → (List Eng.V) → Bool → Bool → Prop) : Prop :=
 K (!a0) a0 a1 a2 a3
def Xoctet_Reader_Ok : Toctet_Reader_Ok := Yoctet_Reader_Ok
def Joctet_Reader_Ok (X : Toctet_Reader_Ok) : Inst := mkI 205 upL6 upH7 upL9 upH7 X
def Ioctet_Reader_Ok : Inst := Joctet_Reader_Ok Xoctet_Reader_Ok
theorem Eoctet_Reader_Ok : EqF Tryz.prog 8 gives Tryz.f205 [] [] (Joctet_Reader_Ok (Yoctet_Reader_Ok)) := fun x y K => by kernel_rfl
theorem Ioctet_Reader_Ok_ok : InstOk Tryz.prog G.1 Ioctet_Reader_Ok := iok (gives := gives) [] okNil 8 follows Tryz.func205 (by kernel_rfl) (fun x => by kernel_rfl) (Eoctet_Reader_Ok)
abbrev Thead_Decode_1 : Type := Int → (Bool → Prop) → Prop
def Yhead_Decode_1 (a0 : Int) (K : Bool → Prop) : Prop :=
 K (a0 != 0)
def Xhead_Decode_1 : Thead_Decode_1 := Yhead_Decode_1
def Jhead_Decode_1 (X : Thead_Decode_1) : Inst := mkI 204 upL24 .nil upL9 .nil X
def Ihead_Decode_1 : Inst := Jhead_Decode_1 Xhead_Decode_1
theorem Ehead_Decode_1 : EqF Tryz.prog 5 gives Tryz.f204 [] [] (Jhead_Decode_1 (Yhead_Decode_1)) := fun x y K => by kernel_rfl
theorem Ihead_Decode_1_ok : InstOk Tryz.prog G.1 Ihead_Decode_1 := iok (gives := gives) [] okNil 5 follows Tryz.func204 (by kernel_rfl) (fun x => by kernel_rfl) (Ehead_Decode_1)
abbrev Tslices_IndexFunc___byte_byte__1 : Type := (List Eng.V) → (Int → Prop) → Prop
def Lslices_IndexFunc___byte_byte__1_0 (xhead_Decode_1 : Thead_Decode_1) (K : Int → Prop) : (uQ25 → Prop) → uQ25 → Prop := fun k1 x2 =>
 (if decide (x2.1.2.2.2.2.1 < x2.1.2.2.2.1) then
 (if 0 ≤ x2.1.2.2.2.2.1 ∧ x2.1.2.2.2.2.1 < (↑(List.length x2.1.1) : Int) then
 (Eng.asInt IntKind.u8 (Eng.getC x2.1.1 (Int.toNat x2.1.2.2.2.2.1) (0 : Nat)) False fun n3 =>
 xhead_Decode_1 n3 (fun r4 =>
 (if r4 then
 K x2.1.2.2.2.2.1
 else
 k1 ((x2.1.1, ((), ()), x2.1.2.2.1, x2.1.2.2.2.1, w64 (x2.1.2.2.2.2.1 + 1), ()), ()))))
 else
 False)
 else
 K (-1))
def Lslices_IndexFunc___byte_byte__1_0p : Lp := ⟨403, [.trim 403], upT75, .nil, 0⟩
def Yslices_IndexFunc___byte_byte__1 (xhead_Decode_1 : Thead_Decode_1) (a0 : (List Eng.V)) (K : Int → Prop) : Prop :=
 lp (Lslices_IndexFunc___byte_byte__1_0 xhead_Decode_1 K) ((a0, ((), ()), 0, (↑(List.length a0) : Int), 0, ()), ())
def Xslices_IndexFunc___byte_byte__1 : Tslices_IndexFunc___byte_byte__1 := Yslices_IndexFunc___byte_byte__1 Xhead_Decode_1
def Jslices_IndexFunc___byte_byte__1 (X : Tslices_IndexFunc___byte_byte__1) : Inst := mkI 181 upL76 .nil upL2 .nil X
def Islices_IndexFunc___byte_byte__1 : Inst := Jslices_IndexFunc___byte_byte__1 Xslices_IndexFunc___byte_byte__1
theorem Eslices_IndexFunc___byte_byte__1 (xhead_Decode_1 : Thead_Decode_1) : EqF Tryz.prog 19 gives Tryz.f181 [Jhead_Decode_1 xhead_Decode_1] [Lslices_IndexFunc___byte_byte__1_0p] (Jslices_IndexFunc___byte_byte__1 (Yslices_IndexFunc___byte_byte__1 xhead_Decode_1)) := fun x y K => by kernel_rfl
theorem Islices_IndexFunc___byte_byte__1_ok : InstOk Tryz.prog G.1 Islices_IndexFunc___byte_byte__1 := iok (gives := gives) [Lslices_IndexFunc___byte_byte__1_0p] (okCons Ihead_Decode_1_ok okNil) 19 follows Tryz.func181 (by kernel_rfl) (fun x => by kernel_rfl) (Eslices_IndexFunc___byte_byte__1 Xhead_Decode_1)
abbrev Tslices_ContainsFunc___byte_byte__1 : Type := (List Eng.V) → (Bool → Prop) → Prop
def Yslices_ContainsFunc___byte_byte__1 (xslices_IndexFunc___byte_byte__1 : Tslices_IndexFunc___byte_byte__1) (a0 : (List Eng.V)) (K : Bool → Prop) : Prop :=
 xslices_IndexFunc___byte_byte__1 a0 (fun r1 =>
 K (decide (r1 ≥ 0)))
def Xslices_ContainsFunc___byte_byte__1 : Tslices_ContainsFunc___byte_byte__1 := Yslices_ContainsFunc___byte_byte__1 Xslices_IndexFunc___byte_byte__1
def Jslices_ContainsFunc___byte_byte__1 (X : Tslices_ContainsFunc___byte_byte__1) : Inst := mkI 129 upL76 .nil upL9 .nil X
def Islices_ContainsFunc___byte_byte__1 : Inst := Jslices_ContainsFunc___byte_byte__1 Xslices_ContainsFunc___byte_byte__1
theorem Eslices_ContainsFunc___byte_byte__1 (xslices_IndexFunc___byte_byte__1 : Tslices_IndexFunc___byte_byte__1) : EqF Tryz.prog 9 gives Tryz.f129 [Jslices_IndexFunc___byte_byte__1 xslices_IndexFunc___byte_byte__1] [] (Jslices_ContainsFunc___byte_byte__1 (Yslices_ContainsFunc___byte_byte__1 xslices_IndexFunc___byte_byte__1)) := fun x y K => by kernel_rfl
theorem Islices_ContainsFunc___byte_byte__1_ok : InstOk Tryz.prog G.1 Islices_ContainsFunc___byte_byte__1 := iok (gives := gives) [] (okCons Islices_IndexFunc___byte_byte__1_ok okNil) 9 follows Tryz.func129 (by kernel_rfl) (fun x => by kernel_rfl) (Eslices_ContainsFunc___byte_byte__1 Xslices_IndexFunc___byte_byte__1)
abbrev Thead_Decode : Type := (List Eng.V) → (uQ0 → Bool → Prop) → Prop
def Lhead_Decode_0p : Lp := ⟨939524220, [.ren 624 1456], .nil, .nil, 12⟩
def Yhead_Decode (xoctet_Open : Toctet_Open) (xoctet_Reader_Take : Toctet_Reader_Take) (xoctet_Reader_Num : Toctet_Reader_Num) (xhead_version : Thead_version) (xoctet_Reader_Ok : Toctet_Reader_Ok) (xslices_ContainsFunc___byte_byte__1 : Tslices_ContainsFunc___byte_byte__1) (xhead_Right : Thead_Right) (a0 : (List Eng.V)) (K : uQ0 → Bool → Prop) : Prop :=
 xoctet_Open a0 (fun r1 r2 r3 r4 =>
 xoctet_Reader_Take 4 r1 r2 r3 r4 (fun r5 r6 r7 r8 r9 r10 r11 =>
 (if Eng.allU8 r6 then
 xoctet_Reader_Num 1 r5 r9 r10 r11 (fun r12 r13 r14 r15 r16 =>
 xhead_version r12 (fun r17 =>
 xoctet_Reader_Take 15 r13 r14 r15 r16 (fun r18 r19 r20 r21 r22 r23 r24 =>
 xoctet_Reader_Num 4 r18 r22 r23 r24 (fun r25 r26 r27 r28 r29 =>
 xoctet_Reader_Num 4 r26 r27 r28 r29 (fun r30 r31 r32 r33 r34 =>
 xoctet_Reader_Num 4 r31 r32 r33 r34 (fun r35 r36 r37 r38 r39 =>
 xoctet_Reader_Num 4 r36 r37 r38 r39 (fun r40 r41 r42 r43 r44 =>
 xoctet_Reader_Num 4 r41 r42 r43 r44 (fun r45 r46 r47 r48 r49 =>
 xoctet_Reader_Num 4 r46 r47 r48 r49 (fun r50 r51 r52 r53 r54 =>
 xoctet_Reader_Ok r51 r52 r53 r54 (fun r55 r56 r57 r58 r59 =>
 (if (!r55) then
 K (0, 0, 0, 0, 0, 0, 0, ()) false
 else
 (lt (!ByteArray.toList (Eng.packB r6) == ByteArray.toList (ByteArray.mk #[(84 : UInt8), (90 : UInt8), (105 : UInt8), (102 : UInt8)])) fun v60 =>
 (if v60 then
 K (0, 0, 0, 0, 0, 0, 0, ()) false
 else
 xslices_ContainsFunc___byte_byte__1 r19 (fun r61 =>
 (if r61 then
 K (0, 0, 0, 0, 0, 0, 0, ()) false
 else
 xhead_Right (r17, r25, r30, r35, r40, r45, r50, ()) (fun r62 =>
 (if (!r62) then
 K (0, 0, 0, 0, 0, 0, 0, ()) false
 else
 K (r17, r25, r30, r35, r40, r45, r50, ()) true)))))))))))))))))
 else
 False)))
def Xhead_Decode : Thead_Decode := Yhead_Decode Xoctet_Open Xoctet_Reader_Take Xoctet_Reader_Num Xhead_version Xoctet_Reader_Ok Xslices_ContainsFunc___byte_byte__1 Xhead_Right
def Jhead_Decode (X : Thead_Decode) : Inst := mkI 164 upL3 .nil upL77 .nil X
def Ihead_Decode : Inst := Jhead_Decode Xhead_Decode
theorem Ehead_Decode (xoctet_Open : Toctet_Open) (xoctet_Reader_Take : Toctet_Reader_Take) (xoctet_Reader_Num : Toctet_Reader_Num) (xhead_version : Thead_version) (xoctet_Reader_Ok : Toctet_Reader_Ok) (xslices_ContainsFunc___byte_byte__1 : Tslices_ContainsFunc___byte_byte__1) (xhead_Right : Thead_Right) : EqF Tryz.prog 57 gives Tryz.f164 [Joctet_Open xoctet_Open, Joctet_Reader_Take xoctet_Reader_Take, Joctet_Reader_Num xoctet_Reader_Num, Jhead_version xhead_version, Joctet_Reader_Ok xoctet_Reader_Ok, Jslices_ContainsFunc___byte_byte__1 xslices_ContainsFunc___byte_byte__1, Jhead_Right xhead_Right] [Lhead_Decode_0p] (Jhead_Decode (Yhead_Decode xoctet_Open xoctet_Reader_Take xoctet_Reader_Num xhead_version xoctet_Reader_Ok xslices_ContainsFunc___byte_byte__1 xhead_Right)) := fun x y K => by kernel_rfl
theorem Ihead_Decode_ok : InstOk Tryz.prog G.1 Ihead_Decode := iok (gives := gives) [Lhead_Decode_0p] (okCons Ioctet_Open_ok (okCons Ioctet_Reader_Take_ok (okCons Ioctet_Reader_Num_ok (okCons Ihead_version_ok (okCons Ioctet_Reader_Ok_ok (okCons Islices_ContainsFunc___byte_byte__1_ok (okCons Ihead_Right_ok okNil))))))) 57 follows Tryz.func164 (by kernel_rfl) (fun x => by kernel_rfl) (Ehead_Decode Xoctet_Open Xoctet_Reader_Take Xoctet_Reader_Num Xhead_version Xoctet_Reader_Ok Xslices_ContainsFunc___byte_byte__1 Xhead_Right)
abbrev Ttzif_cut : Type := (List Eng.V) → Int → (uQ0 → Bool → (List Eng.V) → Bool → Bool → (List Eng.V) → Bool → Bool → Prop) → Prop
def Ytzif_cut (xhead_Decode : Thead_Decode) (xhead_Size : Thead_Size) (a0 : (List Eng.V)) (a1 : Int) (K : uQ0 → Bool → (List Eng.V) → Bool → Bool → (List Eng.V) → Bool → Bool → Prop) : Prop :=
 xhead_Decode a0 (fun r2 r3 =>
 (if (!r3) then
 K r2 false [] true true [] true true
 else
 (if 0 ≤ (↑(List.length a0) : Int) ∧ (↑(List.length a0) : Int) ≤ (↑(List.length a0) : Int) then
 (if (0 :Int) ≤ 44 ∧ 44 ≤ (↑(List.length a0) : Int) then
 (if (r2.1 == 1) then
 xhead_Size r2 4 (fun r4 =>
 (if decide (r4 > (↑(List.length (Eng.cutL a0 (44 : Nat) (Int.toNat (↑(List.length a0) : Int) - (44 : Nat)))) : Int)) then
 K r2 false [] true true [] true true
 else
 (if 0 ≤ r4 ∧ r4 ≤ (↑(List.length (Eng.cutL a0 (44 : Nat) (Int.toNat (↑(List.length a0) : Int) - (44 : Nat)))) : Int) then
 (if (0 :Int) ≤ 0 ∧ 0 ≤ r4 then
 (if 0 ≤ (↑(List.length (Eng.cutL a0 (44 : Nat) (Int.toNat (↑(List.length a0) : Int) - (44 : Nat)))) : Int) ∧ (↑(List.length (Eng.cutL a0 (44 : Nat) (Int.toNat (↑(List.length a0) : Int) - (44 : Nat)))) : Int) ≤ (↑(List.length (Eng.cutL a0 (44 : Nat) (Int.toNat (↑(List.length a0) : Int) - (44 : Nat)))) : Int) then
 (if 0 ≤ r4 ∧ r4 ≤ (↑(List.length (Eng.cutL a0 (44 : Nat) (Int.toNat (↑(List.length a0) : Int) - (44 : Nat)))) : Int) then
 (lt (Eng.cutL (Eng.cutL a0 (44 : Nat) (Int.toNat (↑(List.length a0) : Int) - (44 : Nat))) (Int.toNat r4) (Int.toNat (↑(List.length (Eng.cutL a0 (44 : Nat) (Int.toNat (↑(List.length a0) : Int) - (44 : Nat)))) : Int) - Int.toNat r4)) fun v5 =>
 K r2 true (Eng.cutL (Eng.cutL a0 (44 : Nat) (Int.toNat (↑(List.length a0) : Int) - (44 : Nat))) (0 : Nat) (Int.toNat r4 - (0 : Nat))) false true v5 false true)
 else
 False)
 else
 False)
 else
 False)
 else
 False)))
 else
 xhead_Size r2 a1 (fun r6 =>
 (if decide (r6 > (↑(List.length (Eng.cutL a0 (44 : Nat) (Int.toNat (↑(List.length a0) : Int) - (44 : Nat)))) : Int)) then
 K r2 false [] true true [] true true
 else
 (if 0 ≤ r6 ∧ r6 ≤ (↑(List.length (Eng.cutL a0 (44 : Nat) (Int.toNat (↑(List.length a0) : Int) - (44 : Nat)))) : Int) then
 (if (0 :Int) ≤ 0 ∧ 0 ≤ r6 then
 (if 0 ≤ (↑(List.length (Eng.cutL a0 (44 : Nat) (Int.toNat (↑(List.length a0) : Int) - (44 : Nat)))) : Int) ∧ (↑(List.length (Eng.cutL a0 (44 : Nat) (Int.toNat (↑(List.length a0) : Int) - (44 : Nat)))) : Int) ≤ (↑(List.length (Eng.cutL a0 (44 : Nat) (Int.toNat (↑(List.length a0) : Int) - (44 : Nat)))) : Int) then
 (if 0 ≤ r6 ∧ r6 ≤ (↑(List.length (Eng.cutL a0 (44 : Nat) (Int.toNat (↑(List.length a0) : Int) - (44 : Nat)))) : Int) then
 (lt (Eng.cutL (Eng.cutL a0 (44 : Nat) (Int.toNat (↑(List.length a0) : Int) - (44 : Nat))) (Int.toNat r6) (Int.toNat (↑(List.length (Eng.cutL a0 (44 : Nat) (Int.toNat (↑(List.length a0) : Int) - (44 : Nat)))) : Int) - Int.toNat r6)) fun v7 =>
 K r2 true (Eng.cutL (Eng.cutL a0 (44 : Nat) (Int.toNat (↑(List.length a0) : Int) - (44 : Nat))) (0 : Nat) (Int.toNat r6 - (0 : Nat))) false true v7 false true)
 else
 False)
 else
 False)
 else
 False)
 else
 False))))
 else
 False)
 else
 False)))
def Xtzif_cut : Ttzif_cut := Ytzif_cut Xhead_Decode Xhead_Size
def Jtzif_cut (X : Ttzif_cut) : Inst := mkI 107 upL78 .nil upL79 upH80 X
def Itzif_cut : Inst := Jtzif_cut Xtzif_cut
theorem Etzif_cut (xhead_Decode : Thead_Decode) (xhead_Size : Thead_Size) : EqF Tryz.prog 37 gives Tryz.f107 [Jhead_Decode xhead_Decode, Jhead_Size xhead_Size] [] (Jtzif_cut (Ytzif_cut xhead_Decode xhead_Size)) := fun x y K => by kernel_rfl
theorem Itzif_cut_ok : InstOk Tryz.prog G.1 Itzif_cut := iok (gives := gives) [] (okCons Ihead_Decode_ok (okCons Ihead_Size_ok okNil)) 37 follows Tryz.func107 (by kernel_rfl) (fun x => by kernel_rfl) (Etzif_cut Xhead_Decode Xhead_Size)
abbrev Tinternal_stringslite_HasSuffix : Type := ByteArray → ByteArray → (Bool → Prop) → Prop
def Yinternal_stringslite_HasSuffix (a0 : ByteArray) (a1 : ByteArray) (K : Bool → Prop) : Prop :=
 (if decide ((↑(ByteArray.size a0) : Int) ≥ (↑(ByteArray.size a1) : Int)) then
 (if 0 ≤ (↑(ByteArray.size a0) : Int) ∧ (↑(ByteArray.size a0) : Int) ≤ (↑(ByteArray.size a0) : Int) then
 (if 0 ≤ w64 ((↑(ByteArray.size a0) : Int) - (↑(ByteArray.size a1) : Int)) ∧ w64 ((↑(ByteArray.size a0) : Int) - (↑(ByteArray.size a1) : Int)) ≤ (↑(ByteArray.size a0) : Int) then
 (lt (ByteArray.extract a0 (Int.toNat (w64 ((↑(ByteArray.size a0) : Int) - (↑(ByteArray.size a1) : Int)))) (Int.toNat (↑(ByteArray.size a0) : Int))) fun v2 =>
 K (ByteArray.toList v2 == ByteArray.toList a1))
 else
 False)
 else
 False)
 else
 K false)
def Xinternal_stringslite_HasSuffix : Tinternal_stringslite_HasSuffix := Yinternal_stringslite_HasSuffix
def Jinternal_stringslite_HasSuffix (X : Tinternal_stringslite_HasSuffix) : Inst := mkI 229 upL81 .nil upL9 .nil X
def Iinternal_stringslite_HasSuffix : Inst := Jinternal_stringslite_HasSuffix Xinternal_stringslite_HasSuffix
theorem Einternal_stringslite_HasSuffix : EqF Tryz.prog 21 gives Tryz.f229 [] [] (Jinternal_stringslite_HasSuffix (Yinternal_stringslite_HasSuffix)) := fun x y K => by kernel_rfl
theorem Iinternal_stringslite_HasSuffix_ok : InstOk Tryz.prog G.1 Iinternal_stringslite_HasSuffix := iok (gives := gives) [] okNil 21 follows Tryz.func229 (by kernel_rfl) (fun x => by kernel_rfl) (Einternal_stringslite_HasSuffix)
abbrev Tinternal_stringslite_CutSuffix : Type := ByteArray → ByteArray → (ByteArray → Bool → Prop) → Prop
def Yinternal_stringslite_CutSuffix (xinternal_stringslite_HasSuffix : Tinternal_stringslite_HasSuffix) (a0 : ByteArray) (a1 : ByteArray) (K : ByteArray → Bool → Prop) : Prop :=
 xinternal_stringslite_HasSuffix a0 a1 (fun r2 =>
 (if (!r2) then
 K a0 false
 else
 (if 0 ≤ w64 ((↑(ByteArray.size a0) : Int) - (↑(ByteArray.size a1) : Int)) ∧ w64 ((↑(ByteArray.size a0) : Int) - (↑(ByteArray.size a1) : Int)) ≤ (↑(ByteArray.size a0) : Int) then
 (if (0 :Int) ≤ 0 ∧ 0 ≤ w64 ((↑(ByteArray.size a0) : Int) - (↑(ByteArray.size a1) : Int)) then
 (lt (ByteArray.extract a0 (0 : Nat) (Int.toNat (w64 ((↑(ByteArray.size a0) : Int) - (↑(ByteArray.size a1) : Int))))) fun v3 =>
 K v3 true)
 else
 False)
 else
 False)))
def Xinternal_stringslite_CutSuffix : Tinternal_stringslite_CutSuffix := Yinternal_stringslite_CutSuffix Xinternal_stringslite_HasSuffix
def Jinternal_stringslite_CutSuffix (X : Tinternal_stringslite_CutSuffix) : Inst := mkI 207 upL81 .nil upL23 .nil X
def Iinternal_stringslite_CutSuffix : Inst := Jinternal_stringslite_CutSuffix Xinternal_stringslite_CutSuffix
theorem Einternal_stringslite_CutSuffix (xinternal_stringslite_HasSuffix : Tinternal_stringslite_HasSuffix) : EqF Tryz.prog 18 gives Tryz.f207 [Jinternal_stringslite_HasSuffix xinternal_stringslite_HasSuffix] [] (Jinternal_stringslite_CutSuffix (Yinternal_stringslite_CutSuffix xinternal_stringslite_HasSuffix)) := fun x y K => by kernel_rfl
theorem Iinternal_stringslite_CutSuffix_ok : InstOk Tryz.prog G.1 Iinternal_stringslite_CutSuffix := iok (gives := gives) [] (okCons Iinternal_stringslite_HasSuffix_ok okNil) 18 follows Tryz.func207 (by kernel_rfl) (fun x => by kernel_rfl) (Einternal_stringslite_CutSuffix Xinternal_stringslite_HasSuffix)
abbrev Tstrings_CutSuffix : Type := ByteArray → ByteArray → (ByteArray → Bool → Prop) → Prop
def Ystrings_CutSuffix (xinternal_stringslite_CutSuffix : Tinternal_stringslite_CutSuffix) (a0 : ByteArray) (a1 : ByteArray) (K : ByteArray → Bool → Prop) : Prop :=
 xinternal_stringslite_CutSuffix a0 a1 (fun r2 r3 =>
 K r2 r3)
def Xstrings_CutSuffix : Tstrings_CutSuffix := Ystrings_CutSuffix Xinternal_stringslite_CutSuffix
def Jstrings_CutSuffix (X : Tstrings_CutSuffix) : Inst := mkI 166 upL81 .nil upL23 .nil X
def Istrings_CutSuffix : Inst := Jstrings_CutSuffix Xstrings_CutSuffix
theorem Estrings_CutSuffix (xinternal_stringslite_CutSuffix : Tinternal_stringslite_CutSuffix) : EqF Tryz.prog 11 gives Tryz.f166 [Jinternal_stringslite_CutSuffix xinternal_stringslite_CutSuffix] [] (Jstrings_CutSuffix (Ystrings_CutSuffix xinternal_stringslite_CutSuffix)) := fun x y K => by kernel_rfl
theorem Istrings_CutSuffix_ok : InstOk Tryz.prog G.1 Istrings_CutSuffix := iok (gives := gives) [] (okCons Iinternal_stringslite_CutSuffix_ok okNil) 11 follows Tryz.func166 (by kernel_rfl) (fun x => by kernel_rfl) (Estrings_CutSuffix Xinternal_stringslite_CutSuffix)
abbrev Tstrings_Index : Type := ByteArray → ByteArray → (Int → Prop) → Prop
def Ystrings_Index (xinternal_stringslite_Index : Tinternal_stringslite_Index) (a0 : ByteArray) (a1 : ByteArray) (K : Int → Prop) : Prop :=
 xinternal_stringslite_Index a0 a1 (fun r2 =>
 K r2)
def Xstrings_Index : Tstrings_Index := Ystrings_Index Xinternal_stringslite_Index
def Jstrings_Index (X : Tstrings_Index) : Inst := mkI 208 upL81 .nil upL2 .nil X
def Istrings_Index : Inst := Jstrings_Index Xstrings_Index
theorem Estrings_Index (xinternal_stringslite_Index : Tinternal_stringslite_Index) : EqF Tryz.prog 8 gives Tryz.f208 [Jinternal_stringslite_Index xinternal_stringslite_Index] [] (Jstrings_Index (Ystrings_Index xinternal_stringslite_Index)) := fun x y K => by kernel_rfl
theorem Istrings_Index_ok : InstOk Tryz.prog G.1 Istrings_Index := iok (gives := gives) [] (okCons Iinternal_stringslite_Index_ok okNil) 8 follows Tryz.func208 (by kernel_rfl) (fun x => by kernel_rfl) (Estrings_Index Xinternal_stringslite_Index)
abbrev Tstrings_Contains : Type := ByteArray → ByteArray → (Bool → Prop) → Prop
def Ystrings_Contains (xstrings_Index : Tstrings_Index) (a0 : ByteArray) (a1 : ByteArray) (K : Bool → Prop) : Prop :=
 xstrings_Index a0 a1 (fun r2 =>
 K (decide (r2 ≥ 0)))
def Xstrings_Contains : Tstrings_Contains := Ystrings_Contains Xstrings_Index
def Jstrings_Contains (X : Tstrings_Contains) : Inst := mkI 167 upL81 .nil upL9 .nil X
def Istrings_Contains : Inst := Jstrings_Contains Xstrings_Contains
theorem Estrings_Contains (xstrings_Index : Tstrings_Index) : EqF Tryz.prog 9 gives Tryz.f167 [Jstrings_Index xstrings_Index] [] (Jstrings_Contains (Ystrings_Contains xstrings_Index)) := fun x y K => by kernel_rfl
theorem Istrings_Contains_ok : InstOk Tryz.prog G.1 Istrings_Contains := iok (gives := gives) [] (okCons Istrings_Index_ok okNil) 9 follows Tryz.func167 (by kernel_rfl) (fun x => by kernel_rfl) (Estrings_Contains Xstrings_Index)
abbrev Ttzif_foot : Type := (List Eng.V) → (ByteArray → Bool → Prop) → Prop
def Ytzif_foot (xstrings_CutPrefix : Tstrings_CutPrefix) (xstrings_CutSuffix : Tstrings_CutSuffix) (xstrings_Contains : Tstrings_Contains) (a0 : (List Eng.V)) (K : ByteArray → Bool → Prop) : Prop :=
 (if Eng.allU8 a0 then
 xstrings_CutPrefix (Eng.packB a0) (ByteArray.mk #[(10 : UInt8)]) (fun r1 r2 =>
 xstrings_CutSuffix r1 (ByteArray.mk #[(10 : UInt8)]) (fun r3 r4 =>
 (if r2 then
 (if r4 then
 xstrings_Contains r3 (ByteArray.mk #[(10 : UInt8)]) (fun r5 =>
 K r3 !r5)
 else
 K r3 false)
 else
 K r3 false)))
 else
 False)
def Xtzif_foot : Ttzif_foot := Ytzif_foot Xstrings_CutPrefix Xstrings_CutSuffix Xstrings_Contains
def Jtzif_foot (X : Ttzif_foot) : Inst := mkI 108 upL3 .nil upL23 .nil X
def Itzif_foot : Inst := Jtzif_foot Xtzif_foot
theorem Etzif_foot (xstrings_CutPrefix : Tstrings_CutPrefix) (xstrings_CutSuffix : Tstrings_CutSuffix) (xstrings_Contains : Tstrings_Contains) : EqF Tryz.prog 28 gives Tryz.f108 [Jstrings_CutPrefix xstrings_CutPrefix, Jstrings_CutSuffix xstrings_CutSuffix, Jstrings_Contains xstrings_Contains] [] (Jtzif_foot (Ytzif_foot xstrings_CutPrefix xstrings_CutSuffix xstrings_Contains)) := fun x y K => by kernel_rfl
theorem Itzif_foot_ok : InstOk Tryz.prog G.1 Itzif_foot := iok (gives := gives) [] (okCons Istrings_CutPrefix_ok (okCons Istrings_CutSuffix_ok (okCons Istrings_Contains_ok okNil))) 28 follows Tryz.func108 (by kernel_rfl) (fun x => by kernel_rfl) (Etzif_foot Xstrings_CutPrefix Xstrings_CutSuffix Xstrings_Contains)
abbrev Ttzif_read : Type := (List Eng.V) → (uQ33 → Bool → (List Eng.V) → Bool → Bool → (List Eng.V) → Bool → Bool → (List Eng.V) → Bool → Bool → Prop) → Prop
def Ytzif_read (xtzif_cut : Ttzif_cut) (xblock_Decode : Tblock_Decode) (xtzif_foot : Ttzif_foot) (a0 : (List Eng.V)) (K : uQ33 → Bool → (List Eng.V) → Bool → Bool → (List Eng.V) → Bool → Bool → (List Eng.V) → Bool → Bool → Prop) : Prop :=
 xtzif_cut a0 4 (fun r1 r2 r3 r4 r5 r6 r7 r8 =>
 (if (!r2) then
 K ((), (), (), ByteArray.mk #[], 0, ()) false [] true true [] true true [] true true
 else
 (if (r1.1 == 1) then
 xblock_Decode r1 r3 4 (fun r9 r10 r11 r12 r13 r14 r15 r16 r17 r18 r19 =>
 (if r10 then
 K ((), (), (), r9.2.2.2) ((↑(List.length r6) : Int) == 0) r11 r12 r13 r14 r15 r16 r17 r18 r19
 else
 K ((), (), (), r9.2.2.2) false r11 r12 r13 r14 r15 r16 r17 r18 r19))
 else
 xtzif_cut r6 8 (fun r20 r21 r22 r23 r24 r25 r26 r27 =>
 (if (!r21) then
 K ((), (), (), ByteArray.mk #[], 0, ()) false [] true true [] true true [] true true
 else
 (if (r20.1 != r1.1) then
 K ((), (), (), ByteArray.mk #[], 0, ()) false [] true true [] true true [] true true
 else
 xblock_Decode r20 r22 8 (fun r28 r29 r30 r31 r32 r33 r34 r35 r36 r37 r38 =>
 xtzif_foot r25 (fun r39 r40 =>
 (if r29 then
 K ((), (), (), r39, r28.2.2.2.2) r40 r30 r31 r32 r33 r34 r35 r36 r37 r38
 else
 K ((), (), (), r39, r28.2.2.2.2) false r30 r31 r32 r33 r34 r35 r36 r37 r38)))))))))
def Xtzif_read : Ttzif_read := Ytzif_read Xtzif_cut Xblock_Decode Xtzif_foot
def Jtzif_read (X : Ttzif_read) : Inst := mkI 45 upL3 .nil upL45 upH46 X
def Itzif_read : Inst := Jtzif_read Xtzif_read
theorem Etzif_read (xtzif_cut : Ttzif_cut) (xblock_Decode : Tblock_Decode) (xtzif_foot : Ttzif_foot) : EqF Tryz.prog 73 gives Tryz.f45 [Jtzif_cut xtzif_cut, Jblock_Decode xblock_Decode, Jtzif_foot xtzif_foot] [] (Jtzif_read (Ytzif_read xtzif_cut xblock_Decode xtzif_foot)) := fun x y K => by kernel_rfl
theorem Itzif_read_ok : InstOk Tryz.prog G.1 Itzif_read := iok (gives := gives) [] (okCons Itzif_cut_ok (okCons Iblock_Decode_ok (okCons Itzif_foot_ok okNil))) 73 follows Tryz.func45 (by kernel_rfl) (fun x => by kernel_rfl) (Etzif_read Xtzif_cut Xblock_Decode Xtzif_foot)
abbrev Ttzif_Decode : Type := (List Eng.V) → (uQ33 → Int → (List Eng.V) → Bool → Bool → (List Eng.V) → Bool → Bool → (List Eng.V) → Bool → Bool → Prop) → Prop
def Ytzif_Decode (xtzif_read : Ttzif_read) (xzone_Right : Tzone_Right) (a0 : (List Eng.V)) (K : uQ33 → Int → (List Eng.V) → Bool → Bool → (List Eng.V) → Bool → Bool → (List Eng.V) → Bool → Bool → Prop) : Prop :=
 xtzif_read a0 (fun r1 r2 r3 r4 r5 r6 r7 r8 r9 r10 r11 =>
 (if (!r2) then
 K ((), (), (), ByteArray.mk #[], 0, ()) 2 [] true true [] true true [] true true
 else
 xzone_Right (r3, r6, r9, r1.2.2.2) (fun r12 =>
 (if (!r12) then
 K ((), (), (), ByteArray.mk #[], 0, ()) 9 [] true true [] true true [] true true
 else
 K ((), (), (), r1.2.2.2) 0 r3 r4 r5 r6 r7 r8 r9 r10 r11))))
def Xtzif_Decode : Ttzif_Decode := Ytzif_Decode Xtzif_read Xzone_Right
def Jtzif_Decode (X : Ttzif_Decode) : Inst := mkI 13 upL3 .nil upL82 upH46 X
def Itzif_Decode : Inst := Jtzif_Decode Xtzif_Decode
theorem Etzif_Decode (xtzif_read : Ttzif_read) (xzone_Right : Tzone_Right) : EqF Tryz.prog 21 gives Tryz.f13 [Jtzif_read xtzif_read, Jzone_Right xzone_Right] [] (Jtzif_Decode (Ytzif_Decode xtzif_read xzone_Right)) := fun x y K => by kernel_rfl
theorem Itzif_Decode_ok : InstOk Tryz.prog G.1 Itzif_Decode := iok (gives := gives) [] (okCons Itzif_read_ok (okCons Izone_Right_ok okNil)) 21 follows Tryz.func13 (by kernel_rfl) (fun x => by kernel_rfl) (Etzif_Decode Xtzif_read Xzone_Right)
abbrev Ttzif_Right : Type := (List Eng.V) → (Bool → Prop) → Prop
def Ytzif_Right (xtzif_Decode : Ttzif_Decode) (a0 : (List Eng.V)) (K : Bool → Prop) : Prop :=
 xtzif_Decode a0 (fun r1 r2 r3 r4 r5 r6 r7 r8 r9 r10 r11 =>
 (if ((!r5 || List.isEmpty r3) && Eng.plainL r3) then
 (if ((!r8 || List.isEmpty r6) && Eng.plainL r6) then
 (if ((!r11 || List.isEmpty r9) && Eng.plainL r9) then
 K (r2 == 0)
 else
 False)
 else
 False)
 else
 False))
def Xtzif_Right : Ttzif_Right := Ytzif_Right Xtzif_Decode
def Jtzif_Right (X : Ttzif_Right) : Inst := mkI 16 upL3 .nil upL9 .nil X
def Itzif_Right : Inst := Jtzif_Right Xtzif_Right
theorem Etzif_Right (xtzif_Decode : Ttzif_Decode) : EqF Tryz.prog 12 gives Tryz.f16 [Jtzif_Decode xtzif_Decode] [] (Jtzif_Right (Ytzif_Right xtzif_Decode)) := fun x y K => by kernel_rfl
theorem Itzif_Right_ok : InstOk Tryz.prog G.1 Itzif_Right := iok (gives := gives) [] (okCons Itzif_Decode_ok okNil) 12 follows Tryz.func16 (by kernel_rfl) (fun x => by kernel_rfl) (Etzif_Right Xtzif_Decode)
abbrev Tepactref12_Same : Type := (List Eng.V) → (List Eng.V) → (Bool → Prop) → Prop
def Lepactref12_Same_0 (K : Bool → Prop) : (uQ83 → Prop) → uQ83 → Prop := fun k2 x3 =>
 (if decide (x3.1.2.2.2.1 < (↑(List.length x3.1.1) : Int)) then
 (if 0 ≤ x3.1.2.2.2.1 ∧ x3.1.2.2.2.1 < (↑(List.length x3.1.1) : Int) then
 (Eng.asInt IntKind.i64 (Eng.getC x3.1.1 (Int.toNat x3.1.2.2.2.1) (0 : Nat)) False fun n4 =>
 (Eng.asInt IntKind.i64 (Eng.getC x3.1.1 (Int.toNat x3.1.2.2.2.1) (1 : Nat)) False fun n5 =>
 (if 0 ≤ x3.1.2.2.2.1 ∧ x3.1.2.2.2.1 < (↑(List.length x3.1.2.1) : Int) then
 (Eng.asInt IntKind.i64 (Eng.getC x3.1.2.1 (Int.toNat x3.1.2.2.2.1) (0 : Nat)) False fun n6 =>
 (Eng.asInt IntKind.i64 (Eng.getC x3.1.2.1 (Int.toNat x3.1.2.2.2.1) (1 : Nat)) False fun n7 =>
 (if (!(n4 == n6 && (n5 == n7 && true))) then
 K false
 else
 k2 ((x3.1.1, x3.1.2.1, x3.1.2.2.1, w64 (x3.1.2.2.2.1 + 1), ()), ()))))
 else
 False)))
 else
 False)
 else
 K true)
def Lepactref12_Same_0p : Lp := ⟨51, [.trim 51], upT84, .nil, 0⟩
def Yepactref12_Same (a0 : (List Eng.V)) (a1 : (List Eng.V)) (K : Bool → Prop) : Prop :=
 (if ((↑(List.length a0) : Int) != (↑(List.length a1) : Int)) then
 K false
 else
 lp (Lepactref12_Same_0 K) ((a0, a1, false, 0, ()), ()))
def Xepactref12_Same : Tepactref12_Same := Yepactref12_Same
def Jepactref12_Same (X : Tepactref12_Same) : Inst := mkI 47 upL85 .nil upL9 .nil X
def Iepactref12_Same : Inst := Jepactref12_Same Xepactref12_Same
theorem Eepactref12_Same : EqF Tryz.prog 26 gives Tryz.f47 [] [Lepactref12_Same_0p] (Jepactref12_Same (Yepactref12_Same)) := fun x y K => by kernel_rfl
theorem Iepactref12_Same_ok : InstOk Tryz.prog G.1 Iepactref12_Same := iok (gives := gives) [Lepactref12_Same_0p] okNil 26 follows Tryz.func47 (by kernel_rfl) (fun x => by kernel_rfl) (Eepactref12_Same)
abbrev Tepactref16_Same : Type := uQ58 → uQ58 → (Bool → Prop) → Prop
def Lepactref16_Same_1 (xepactref12_Same : Tepactref12_Same) (K : Bool → Prop) (k2 : uQ86 → Prop) : (uQ86 → Prop) → uQ86 → Prop := fun k11 x12 =>
 (if decide (x12.1.2.2.2.1 < (↑(List.length x12.2.1.2.1) : Int)) then
 (if 0 ≤ x12.1.2.2.2.1 ∧ x12.1.2.2.2.1 < (↑(List.length x12.2.1.2.1) : Int) then
 (Eng.asInt IntKind.i64 (Eng.getC x12.2.1.2.1 (Int.toNat x12.1.2.2.2.1) (0 : Nat)) False fun n13 =>
 (Eng.asInt IntKind.i64 (Eng.getC x12.2.1.2.1 (Int.toNat x12.1.2.2.2.1) (1 : Nat)) False fun n14 =>
 (if 0 ≤ x12.1.2.2.2.1 ∧ x12.1.2.2.2.1 < (↑(List.length x12.2.2.1.2.1) : Int) then
 (Eng.asInt IntKind.i64 (Eng.getC x12.2.2.1.2.1 (Int.toNat x12.1.2.2.2.1) (0 : Nat)) False fun n15 =>
 (Eng.asInt IntKind.i64 (Eng.getC x12.2.2.1.2.1 (Int.toNat x12.1.2.2.2.1) (1 : Nat)) False fun n16 =>
 (if (!(n13 == n15 && (n14 == n16 && true))) then
 K false
 else
 k11 (((), (), x12.1.2.2.1, w64 (x12.1.2.2.2.1 + 1), ()), x12.2))))
 else
 False)))
 else
 False)
 else
 xepactref12_Same x12.2.1.2.2.1 x12.2.2.1.2.2.1 (fun r17 =>
 K r17))
def Lepactref16_Same_1p : Lp := ⟨92, [.trim 92], upT87, upH88, 0⟩
def Lepactref16_Same_0 (xepactref12_Same : Tepactref12_Same) (K : Bool → Prop) : (uQ86 → Prop) → uQ86 → Prop := fun k2 x3 =>
 (if decide (x3.1.2.2.2.1 < (↑(List.length x3.2.1.1) : Int)) then
 (if 0 ≤ x3.1.2.2.2.1 ∧ x3.1.2.2.2.1 < (↑(List.length x3.2.1.1) : Int) then
 (Eng.asInt IntKind.i64 (Eng.getC x3.2.1.1 (Int.toNat x3.1.2.2.2.1) (0 : Nat)) False fun n4 =>
 (Eng.asBool (Eng.getC x3.2.1.1 (Int.toNat x3.1.2.2.2.1) (1 : Nat)) False fun b5 =>
 (Eng.asStr (Eng.getC x3.2.1.1 (Int.toNat x3.1.2.2.2.1) (2 : Nat)) False fun t6 =>
 (if 0 ≤ x3.1.2.2.2.1 ∧ x3.1.2.2.2.1 < (↑(List.length x3.2.2.1.1) : Int) then
 (Eng.asInt IntKind.i64 (Eng.getC x3.2.2.1.1 (Int.toNat x3.1.2.2.2.1) (0 : Nat)) False fun n7 =>
 (Eng.asBool (Eng.getC x3.2.2.1.1 (Int.toNat x3.1.2.2.2.1) (1 : Nat)) False fun b8 =>
 (Eng.asStr (Eng.getC x3.2.2.1.1 (Int.toNat x3.1.2.2.2.1) (2 : Nat)) False fun t9 =>
 (lt (!(n4 == n7 && (b5 == b8 && (ByteArray.toList t6 == ByteArray.toList t9 && true)))) fun v10 =>
 (if v10 then
 K false
 else
 k2 (((), (), x3.1.2.2.1, w64 (x3.1.2.2.2.1 + 1), ()), x3.2))))))
 else
 False))))
 else
 False)
 else
 lp (Lepactref16_Same_1 xepactref12_Same K k2) (((), (), x3.1.2.2.1, 0, ()), x3.2))
def Lepactref16_Same_0p : Lp := ⟨60, [.trim 60], upT89, upH88, 0⟩
def Yepactref16_Same (xepactref12_Same : Tepactref12_Same) (a0 : uQ58) (a1 : uQ58) (K : Bool → Prop) : Prop :=
 (if ((↑(List.length a0.1) : Int) != (↑(List.length a1.1) : Int)) then
 K false
 else
 (if ((↑(List.length a0.2.1) : Int) != (↑(List.length a1.2.1) : Int)) then
 K false
 else
 (if (!ByteArray.toList a0.2.2.2.1 == ByteArray.toList a1.2.2.2.1) then
 K false
 else
 (if (a0.2.2.2.2.1 != a1.2.2.2.2.1) then
 K false
 else
 lp (Lepactref16_Same_0 xepactref12_Same K) (((), (), false, 0, ()), a0, a1, ())))))
def Xepactref16_Same : Tepactref16_Same := Yepactref16_Same Xepactref12_Same
def Jepactref16_Same (X : Tepactref16_Same) : Inst := mkI 15 upL90 .nil upL9 .nil X
def Iepactref16_Same : Inst := Jepactref16_Same Xepactref16_Same
theorem Eepactref16_Same (xepactref12_Same : Tepactref12_Same) : EqF Tryz.prog 78 gives Tryz.f15 [Jepactref12_Same xepactref12_Same] [Lepactref16_Same_0p, Lepactref16_Same_1p] (Jepactref16_Same (Yepactref16_Same xepactref12_Same)) := fun x y K => by kernel_rfl
theorem Iepactref16_Same_ok : InstOk Tryz.prog G.1 Iepactref16_Same := iok (gives := gives) [Lepactref16_Same_0p, Lepactref16_Same_1p] (okCons Iepactref12_Same_ok okNil) 78 follows Tryz.func15 (by kernel_rfl) (fun x => by kernel_rfl) (Eepactref16_Same Xepactref12_Same)
abbrev Tepactlaw20_small : Type := (Bool → Prop) → Prop
def Yepactlaw20_small (xtzif_Encode : Ttzif_Encode) (xtzif_Decode : Ttzif_Decode) (xepactref16_Same : Tepactref16_Same) (xtzif_Right : Ttzif_Right) (K : Bool → Prop) : Prop :=
 xtzif_Encode ([Eng.V.agg [Eng.V.c (Value.int IntKind.i64 0), Eng.V.c (Value.bool false), Eng.V.c (Value.string (ByteArray.mk #[(85 : UInt8), (84 : UInt8), (67 : UInt8)]))]], [], [], ByteArray.mk #[(85 : UInt8), (84 : UInt8), (67 : UInt8), (48 : UInt8)], 2, ()) (fun r0 r1 r2 r3 =>
 xtzif_Decode r1 (fun r4 r5 r6 r7 r8 r9 r10 r11 r12 r13 r14 =>
 (if ((!r8 || List.isEmpty r6) && Eng.plainL r6) then
 (if ((!r11 || List.isEmpty r9) && Eng.plainL r9) then
 (if ((!r14 || List.isEmpty r12) && Eng.plainL r12) then
 (if r2 then
 (if Eng.roomOk (List.length r1 + (1 : Nat)) (1 : Nat) then
 (
 xtzif_Decode (r1 ++ [Eng.V.c (Value.int IntKind.u8 10)]) (fun r15 r16 r17 r18 r19 r20 r21 r22 r23 r24 r25 =>
 (if ((!r19 || List.isEmpty r17) && Eng.plainL r17) then
 (if ((!r22 || List.isEmpty r20) && Eng.plainL r20) then
 (if ((!r25 || List.isEmpty r23) && Eng.plainL r23) then
 xtzif_Decode [] (fun r26 r27 r28 r29 r30 r31 r32 r33 r34 r35 r36 =>
 (if ((!r30 || List.isEmpty r28) && Eng.plainL r28) then
 (if ((!r33 || List.isEmpty r31) && Eng.plainL r31) then
 (if ((!r36 || List.isEmpty r34) && Eng.plainL r34) then
 xtzif_Encode ([Eng.V.agg [Eng.V.c (Value.int IntKind.i64 0), Eng.V.c (Value.bool false), Eng.V.c (Value.string (ByteArray.mk #[(85 : UInt8), (84 : UInt8), (67 : UInt8)]))]], [], [], ByteArray.mk #[], 1, ()) (fun r37 r38 r39 r40 =>
 xtzif_Decode r38 (fun r41 r42 r43 r44 r45 r46 r47 r48 r49 r50 r51 =>
 (if ((!r45 || List.isEmpty r43) && Eng.plainL r43) then
 (if ((!r48 || List.isEmpty r46) && Eng.plainL r46) then
 (if ((!r51 || List.isEmpty r49) && Eng.plainL r49) then
 xtzif_Encode ([], [], [], ByteArray.mk #[], 0, ()) (fun r52 r53 r54 r55 =>
 xtzif_Encode ([Eng.V.agg [Eng.V.c (Value.int IntKind.i64 0), Eng.V.c (Value.bool false), Eng.V.c (Value.string (ByteArray.mk #[(85 : UInt8), (84 : UInt8), (67 : UInt8)]))]], [], [], ByteArray.mk #[(88 : UInt8)], 2, ()) (fun r56 r57 r58 r59 =>
 (if ((↑(List.length r1) : Int) != 111) then
 K false
 else
 (if ((↑(List.length r38) : Int) != 54) then
 K false
 else
 (if (0 :Int) ≤ 107 ∧ 107 < (↑(List.length r1) : Int) then
 (if r3 = false then
 (if (107 : Nat) < List.length (r1 ++ [Eng.V.c (Value.int IntKind.u8 10)]) then
 (lt (List.set (r1 ++ [Eng.V.c (Value.int IntKind.u8 10)]) (107 : Nat) (Eng.setE (List.getD (r1 ++ [Eng.V.c (Value.int IntKind.u8 10)]) (107 : Nat) Eng.V.bad) (0 : Nat) [Eng.V.c (Value.int IntKind.u8 33)])) fun v60 =>
 xtzif_Decode (Eng.cutL v60 (0 : Nat) (List.length r1)) (fun r61 r62 r63 r64 r65 r66 r67 r68 r69 r70 r71 =>
 (if ((!r65 || List.isEmpty r63) && Eng.plainL r63) then
 (if ((!r68 || List.isEmpty r66) && Eng.plainL r66) then
 (if ((!r71 || List.isEmpty r69) && Eng.plainL r69) then
 (if r0 then
 (if (r5 == 0) then
 xepactref16_Same (r6, r9, r12, r4.2.2.2) ([Eng.V.agg [Eng.V.c (Value.int IntKind.i64 0), Eng.V.c (Value.bool false), Eng.V.c (Value.string (ByteArray.mk #[(85 : UInt8), (84 : UInt8), (67 : UInt8)]))]], [], [], ByteArray.mk #[(85 : UInt8), (84 : UInt8), (67 : UInt8), (48 : UInt8)], 2, ()) (fun r72 =>
 (if r72 then
 (if (r16 == 2) then
 (if (r27 == 2) then
 (if r37 then
 (if (r42 == 0) then
 xepactref16_Same (r43, r46, r49, r41.2.2.2) ([Eng.V.agg [Eng.V.c (Value.int IntKind.i64 0), Eng.V.c (Value.bool false), Eng.V.c (Value.string (ByteArray.mk #[(85 : UInt8), (84 : UInt8), (67 : UInt8)]))]], [], [], ByteArray.mk #[], 1, ()) (fun r73 =>
 (if r73 then
 (if (!r52) then
 (if (!r56) then
 (if (r62 == 9) then
 xtzif_Right (Eng.cutL v60 (0 : Nat) (List.length r1)) (fun r74 =>
 (if (!r74) then
 xtzif_Right r38 (fun r75 =>
 K r75)
 else
 K false))
 else
 K false)
 else
 K false)
 else
 K false)
 else
 K false))
 else
 K false)
 else
 K false)
 else
 K false)
 else
 K false)
 else
 K false))
 else
 K false)
 else
 K false)
 else
 False)
 else
 False)
 else
 False)))
 else
 False)
 else
 False)
 else
 False)))))
 else
 False)
 else
 False)
 else
 False)))
 else
 False)
 else
 False)
 else
 False))
 else
 False)
 else
 False)
 else
 False))
 ∧
 xtzif_Decode (r1 ++ [Eng.V.c (Value.int IntKind.u8 10)]) (fun r76 r77 r78 r79 r80 r81 r82 r83 r84 r85 r86 =>
 (if ((!r80 || List.isEmpty r78) && Eng.plainL r78) then
 (if ((!r83 || List.isEmpty r81) && Eng.plainL r81) then
 (if ((!r86 || List.isEmpty r84) && Eng.plainL r84) then
 xtzif_Decode [] (fun r87 r88 r89 r90 r91 r92 r93 r94 r95 r96 r97 =>
 (if ((!r91 || List.isEmpty r89) && Eng.plainL r89) then
 (if ((!r94 || List.isEmpty r92) && Eng.plainL r92) then
 (if ((!r97 || List.isEmpty r95) && Eng.plainL r95) then
 xtzif_Encode ([Eng.V.agg [Eng.V.c (Value.int IntKind.i64 0), Eng.V.c (Value.bool false), Eng.V.c (Value.string (ByteArray.mk #[(85 : UInt8), (84 : UInt8), (67 : UInt8)]))]], [], [], ByteArray.mk #[], 1, ()) (fun r98 r99 r100 r101 =>
 xtzif_Decode r99 (fun r102 r103 r104 r105 r106 r107 r108 r109 r110 r111 r112 =>
 (if ((!r106 || List.isEmpty r104) && Eng.plainL r104) then
 (if ((!r109 || List.isEmpty r107) && Eng.plainL r107) then
 (if ((!r112 || List.isEmpty r110) && Eng.plainL r110) then
 xtzif_Encode ([], [], [], ByteArray.mk #[], 0, ()) (fun r113 r114 r115 r116 =>
 xtzif_Encode ([Eng.V.agg [Eng.V.c (Value.int IntKind.i64 0), Eng.V.c (Value.bool false), Eng.V.c (Value.string (ByteArray.mk #[(85 : UInt8), (84 : UInt8), (67 : UInt8)]))]], [], [], ByteArray.mk #[(88 : UInt8)], 2, ()) (fun r117 r118 r119 r120 =>
 (if ((↑(List.length r1) : Int) != 111) then
 K false
 else
 (if ((↑(List.length r99) : Int) != 54) then
 K false
 else
 (if (0 :Int) ≤ 107 ∧ 107 < (↑(List.length r1) : Int) then
 (if r3 = false then
 (if (107 : Nat) < List.length r1 then
 xtzif_Decode (List.set r1 (107 : Nat) (Eng.setE (List.getD r1 (107 : Nat) Eng.V.bad) (0 : Nat) [Eng.V.c (Value.int IntKind.u8 33)])) (fun r121 r122 r123 r124 r125 r126 r127 r128 r129 r130 r131 =>
 (if ((!r125 || List.isEmpty r123) && Eng.plainL r123) then
 (if ((!r128 || List.isEmpty r126) && Eng.plainL r126) then
 (if ((!r131 || List.isEmpty r129) && Eng.plainL r129) then
 (if r0 then
 (if (r5 == 0) then
 xepactref16_Same (r6, r9, r12, r4.2.2.2) ([Eng.V.agg [Eng.V.c (Value.int IntKind.i64 0), Eng.V.c (Value.bool false), Eng.V.c (Value.string (ByteArray.mk #[(85 : UInt8), (84 : UInt8), (67 : UInt8)]))]], [], [], ByteArray.mk #[(85 : UInt8), (84 : UInt8), (67 : UInt8), (48 : UInt8)], 2, ()) (fun r132 =>
 (if r132 then
 (if (r77 == 2) then
 (if (r88 == 2) then
 (if r98 then
 (if (r103 == 0) then
 xepactref16_Same (r104, r107, r110, r102.2.2.2) ([Eng.V.agg [Eng.V.c (Value.int IntKind.i64 0), Eng.V.c (Value.bool false), Eng.V.c (Value.string (ByteArray.mk #[(85 : UInt8), (84 : UInt8), (67 : UInt8)]))]], [], [], ByteArray.mk #[], 1, ()) (fun r133 =>
 (if r133 then
 (if (!r113) then
 (if (!r117) then
 (if (r122 == 9) then
 xtzif_Right (List.set r1 (107 : Nat) (Eng.setE (List.getD r1 (107 : Nat) Eng.V.bad) (0 : Nat) [Eng.V.c (Value.int IntKind.u8 33)])) (fun r134 =>
 (if (!r134) then
 xtzif_Right r99 (fun r135 =>
 K r135)
 else
 K false))
 else
 K false)
 else
 K false)
 else
 K false)
 else
 K false))
 else
 K false)
 else
 K false)
 else
 K false)
 else
 K false)
 else
 K false))
 else
 K false)
 else
 K false)
 else
 False)
 else
 False)
 else
 False))
 else
 False)
 else
 False)
 else
 False)))))
 else
 False)
 else
 False)
 else
 False)))
 else
 False)
 else
 False)
 else
 False))
 else
 False)
 else
 False)
 else
 False)))
 else
 False)
 else
 False)
 else
 False)
 else
 False)
 else
 False)))
def Xepactlaw20_small : Tepactlaw20_small := Yepactlaw20_small Xtzif_Encode Xtzif_Decode Xepactref16_Same Xtzif_Right
def Jepactlaw20_small (X : Tepactlaw20_small) : Inst := mkI 9 .nil .nil upL9 .nil X
def Iepactlaw20_small : Inst := Jepactlaw20_small Xepactlaw20_small
theorem Eepactlaw20_small (xtzif_Encode : Ttzif_Encode) (xtzif_Decode : Ttzif_Decode) (xepactref16_Same : Tepactref16_Same) (xtzif_Right : Ttzif_Right) : EqF Tryz.prog 137 gives Tryz.f9 [Jtzif_Encode xtzif_Encode, Jtzif_Decode xtzif_Decode, Jepactref16_Same xepactref16_Same, Jtzif_Right xtzif_Right] [] (Jepactlaw20_small (Yepactlaw20_small xtzif_Encode xtzif_Decode xepactref16_Same xtzif_Right)) := fun x y K => by kernel_rfl
theorem Iepactlaw20_small_ok : InstOk Tryz.prog G.1 Iepactlaw20_small := iok (gives := gives) [] (okCons Itzif_Encode_ok (okCons Itzif_Decode_ok (okCons Iepactref16_Same_ok (okCons Itzif_Right_ok okNil)))) 137 follows Tryz.func9 (by kernel_rfl) (fun x => by kernel_rfl) (Eepactlaw20_small Xtzif_Encode Xtzif_Decode Xepactref16_Same Xtzif_Right)
abbrev Tslices_Equal___api_Type_api_Type_ : Type := (List Eng.V) → (List Eng.V) → (Bool → Prop) → Prop
def Lslices_Equal___api_Type_api_Type__0 (K : Bool → Prop) : (uQ91 → Prop) → uQ91 → Prop := fun k2 x3 =>
 (if decide (x3.1.2.2.2.2.1 < x3.1.2.2.2.1) then
 (if 0 ≤ x3.1.2.2.2.2.1 ∧ x3.1.2.2.2.2.1 < (↑(List.length x3.1.1) : Int) then
 (Eng.asInt IntKind.i64 (Eng.getC x3.1.1 (Int.toNat x3.1.2.2.2.2.1) (0 : Nat)) False fun n4 =>
 (Eng.asBool (Eng.getC x3.1.1 (Int.toNat x3.1.2.2.2.2.1) (1 : Nat)) False fun b5 =>
 (Eng.asStr (Eng.getC x3.1.1 (Int.toNat x3.1.2.2.2.2.1) (2 : Nat)) False fun t6 =>
 (if 0 ≤ x3.1.2.2.2.2.1 ∧ x3.1.2.2.2.2.1 < (↑(List.length x3.1.2.1) : Int) then
 (Eng.asInt IntKind.i64 (Eng.getC x3.1.2.1 (Int.toNat x3.1.2.2.2.2.1) (0 : Nat)) False fun n7 =>
 (Eng.asBool (Eng.getC x3.1.2.1 (Int.toNat x3.1.2.2.2.2.1) (1 : Nat)) False fun b8 =>
 (Eng.asStr (Eng.getC x3.1.2.1 (Int.toNat x3.1.2.2.2.2.1) (2 : Nat)) False fun t9 =>
 (lt (!(n4 == n7 && (b5 == b8 && (ByteArray.toList t6 == ByteArray.toList t9 && true)))) fun v10 =>
 (if v10 then
 K false
 else
 k2 ((x3.1.1, x3.1.2.1, x3.1.2.2.1, x3.1.2.2.2.1, w64 (x3.1.2.2.2.2.1 + 1), ()), ()))))))
 else
 False))))
 else
 False)
 else
 K true)
def Lslices_Equal___api_Type_api_Type__0p : Lp := ⟨12307, [.trim 12307], upT92, .nil, 0⟩
def Yslices_Equal___api_Type_api_Type_ (a0 : (List Eng.V)) (a1 : (List Eng.V)) (K : Bool → Prop) : Prop :=
 (if ((↑(List.length a0) : Int) != (↑(List.length a1) : Int)) then
 K false
 else
 lp (Lslices_Equal___api_Type_api_Type__0 K) ((a0, a1, false, (↑(List.length a0) : Int), 0, ()), ()))
def Xslices_Equal___api_Type_api_Type_ : Tslices_Equal___api_Type_api_Type_ := Yslices_Equal___api_Type_api_Type_
def Jslices_Equal___api_Type_api_Type_ (X : Tslices_Equal___api_Type_api_Type_) : Inst := mkI 69 upL93 .nil upL9 .nil X
def Islices_Equal___api_Type_api_Type_ : Inst := Jslices_Equal___api_Type_api_Type_ Xslices_Equal___api_Type_api_Type_
theorem Eslices_Equal___api_Type_api_Type_ : EqF Tryz.prog 26 gives Tryz.f69 [] [Lslices_Equal___api_Type_api_Type__0p] (Jslices_Equal___api_Type_api_Type_ (Yslices_Equal___api_Type_api_Type_)) := fun x y K => by kernel_rfl
theorem Islices_Equal___api_Type_api_Type__ok : InstOk Tryz.prog G.1 Islices_Equal___api_Type_api_Type_ := iok (gives := gives) [Lslices_Equal___api_Type_api_Type__0p] okNil 26 follows Tryz.func69 (by kernel_rfl) (fun x => by kernel_rfl) (Eslices_Equal___api_Type_api_Type_)
abbrev Tslices_Equal___api_Trans_api_Trans_ : Type := (List Eng.V) → (List Eng.V) → (Bool → Prop) → Prop
def Lslices_Equal___api_Trans_api_Trans__0 (K : Bool → Prop) : (uQ91 → Prop) → uQ91 → Prop := fun k2 x3 =>
 (if decide (x3.1.2.2.2.2.1 < x3.1.2.2.2.1) then
 (if 0 ≤ x3.1.2.2.2.2.1 ∧ x3.1.2.2.2.2.1 < (↑(List.length x3.1.1) : Int) then
 (Eng.asInt IntKind.i64 (Eng.getC x3.1.1 (Int.toNat x3.1.2.2.2.2.1) (0 : Nat)) False fun n4 =>
 (Eng.asInt IntKind.i64 (Eng.getC x3.1.1 (Int.toNat x3.1.2.2.2.2.1) (1 : Nat)) False fun n5 =>
 (if 0 ≤ x3.1.2.2.2.2.1 ∧ x3.1.2.2.2.2.1 < (↑(List.length x3.1.2.1) : Int) then
 (Eng.asInt IntKind.i64 (Eng.getC x3.1.2.1 (Int.toNat x3.1.2.2.2.2.1) (0 : Nat)) False fun n6 =>
 (Eng.asInt IntKind.i64 (Eng.getC x3.1.2.1 (Int.toNat x3.1.2.2.2.2.1) (1 : Nat)) False fun n7 =>
 (if (!(n4 == n6 && (n5 == n7 && true))) then
 K false
 else
 k2 ((x3.1.1, x3.1.2.1, x3.1.2.2.1, x3.1.2.2.2.1, w64 (x3.1.2.2.2.2.1 + 1), ()), ()))))
 else
 False)))
 else
 False)
 else
 K true)
def Lslices_Equal___api_Trans_api_Trans__0p : Lp := ⟨12307, [.trim 12307], upT94, .nil, 0⟩
def Yslices_Equal___api_Trans_api_Trans_ (a0 : (List Eng.V)) (a1 : (List Eng.V)) (K : Bool → Prop) : Prop :=
 (if ((↑(List.length a0) : Int) != (↑(List.length a1) : Int)) then
 K false
 else
 lp (Lslices_Equal___api_Trans_api_Trans__0 K) ((a0, a1, false, (↑(List.length a0) : Int), 0, ()), ()))
def Xslices_Equal___api_Trans_api_Trans_ : Tslices_Equal___api_Trans_api_Trans_ := Yslices_Equal___api_Trans_api_Trans_
def Jslices_Equal___api_Trans_api_Trans_ (X : Tslices_Equal___api_Trans_api_Trans_) : Inst := mkI 70 upL85 .nil upL9 .nil X
def Islices_Equal___api_Trans_api_Trans_ : Inst := Jslices_Equal___api_Trans_api_Trans_ Xslices_Equal___api_Trans_api_Trans_
theorem Eslices_Equal___api_Trans_api_Trans_ : EqF Tryz.prog 26 gives Tryz.f70 [] [Lslices_Equal___api_Trans_api_Trans__0p] (Jslices_Equal___api_Trans_api_Trans_ (Yslices_Equal___api_Trans_api_Trans_)) := fun x y K => by kernel_rfl
theorem Islices_Equal___api_Trans_api_Trans__ok : InstOk Tryz.prog G.1 Islices_Equal___api_Trans_api_Trans_ := iok (gives := gives) [Lslices_Equal___api_Trans_api_Trans__0p] okNil 26 follows Tryz.func70 (by kernel_rfl) (fun x => by kernel_rfl) (Eslices_Equal___api_Trans_api_Trans_)
abbrev Tslices_Equal___api_Corr_api_Corr_ : Type := (List Eng.V) → (List Eng.V) → (Bool → Prop) → Prop
def Lslices_Equal___api_Corr_api_Corr__0 (K : Bool → Prop) : (uQ91 → Prop) → uQ91 → Prop := fun k2 x3 =>
 (if decide (x3.1.2.2.2.2.1 < x3.1.2.2.2.1) then
 (if 0 ≤ x3.1.2.2.2.2.1 ∧ x3.1.2.2.2.2.1 < (↑(List.length x3.1.1) : Int) then
 (Eng.asInt IntKind.i64 (Eng.getC x3.1.1 (Int.toNat x3.1.2.2.2.2.1) (0 : Nat)) False fun n4 =>
 (Eng.asInt IntKind.i64 (Eng.getC x3.1.1 (Int.toNat x3.1.2.2.2.2.1) (1 : Nat)) False fun n5 =>
 (if 0 ≤ x3.1.2.2.2.2.1 ∧ x3.1.2.2.2.2.1 < (↑(List.length x3.1.2.1) : Int) then
 (Eng.asInt IntKind.i64 (Eng.getC x3.1.2.1 (Int.toNat x3.1.2.2.2.2.1) (0 : Nat)) False fun n6 =>
 (Eng.asInt IntKind.i64 (Eng.getC x3.1.2.1 (Int.toNat x3.1.2.2.2.2.1) (1 : Nat)) False fun n7 =>
 (if (!(n4 == n6 && (n5 == n7 && true))) then
 K false
 else
 k2 ((x3.1.1, x3.1.2.1, x3.1.2.2.1, x3.1.2.2.2.1, w64 (x3.1.2.2.2.2.1 + 1), ()), ()))))
 else
 False)))
 else
 False)
 else
 K true)
def Lslices_Equal___api_Corr_api_Corr__0p : Lp := ⟨12307, [.trim 12307], upT94, .nil, 0⟩
def Yslices_Equal___api_Corr_api_Corr_ (a0 : (List Eng.V)) (a1 : (List Eng.V)) (K : Bool → Prop) : Prop :=
 (if ((↑(List.length a0) : Int) != (↑(List.length a1) : Int)) then
 K false
 else
 lp (Lslices_Equal___api_Corr_api_Corr__0 K) ((a0, a1, false, (↑(List.length a0) : Int), 0, ()), ()))
def Xslices_Equal___api_Corr_api_Corr_ : Tslices_Equal___api_Corr_api_Corr_ := Yslices_Equal___api_Corr_api_Corr_
def Jslices_Equal___api_Corr_api_Corr_ (X : Tslices_Equal___api_Corr_api_Corr_) : Inst := mkI 71 upL85 .nil upL9 .nil X
def Islices_Equal___api_Corr_api_Corr_ : Inst := Jslices_Equal___api_Corr_api_Corr_ Xslices_Equal___api_Corr_api_Corr_
theorem Eslices_Equal___api_Corr_api_Corr_ : EqF Tryz.prog 26 gives Tryz.f71 [] [Lslices_Equal___api_Corr_api_Corr__0p] (Jslices_Equal___api_Corr_api_Corr_ (Yslices_Equal___api_Corr_api_Corr_)) := fun x y K => by kernel_rfl
theorem Islices_Equal___api_Corr_api_Corr__ok : InstOk Tryz.prog G.1 Islices_Equal___api_Corr_api_Corr_ := iok (gives := gives) [Lslices_Equal___api_Corr_api_Corr__0p] okNil 26 follows Tryz.func71 (by kernel_rfl) (fun x => by kernel_rfl) (Eslices_Equal___api_Corr_api_Corr_)
end Go.Proofs.YtbnpclndiichcaaGreatDoor
end
section
set_option linter.unusedVariables false
set_option linter.unusedSimpArgs false
namespace Go.Proofs.YtbnpclndiichcaaGreatDoor
open Go Go.Proofs.YtbnpclndiichcaaGreatDoor.Eng
set_option linter.unusedVariables false
set_option maxRecDepth 100000
set_option maxHeartbeats 4000000
variable {G : Gs}
abbrev Tzone_Same : Type := uQ58 → uQ58 → (Bool → Prop) → Prop
def Yzone_Same (xslices_Equal___api_Type_api_Type_ : Tslices_Equal___api_Type_api_Type_) (xslices_Equal___api_Trans_api_Trans_ : Tslices_Equal___api_Trans_api_Trans_) (xslices_Equal___api_Corr_api_Corr_ : Tslices_Equal___api_Corr_api_Corr_) (a0 : uQ58) (a1 : uQ58) (K : Bool → Prop) : Prop :=
 xslices_Equal___api_Type_api_Type_ a0.1 a1.1 (fun r2 =>
 (if r2 then
 xslices_Equal___api_Trans_api_Trans_ a0.2.1 a1.2.1 (fun r3 =>
 (if r3 then
 xslices_Equal___api_Corr_api_Corr_ a0.2.2.1 a1.2.2.1 (fun r4 =>
 (if r4 then
 (if (ByteArray.toList a0.2.2.2.1 == ByteArray.toList a1.2.2.2.1) then
 K (a0.2.2.2.2.1 == a1.2.2.2.2.1)
 else
 K false)
 else
 K false))
 else
 K false))
 else
 K false))
def Xzone_Same : Tzone_Same := Yzone_Same Xslices_Equal___api_Type_api_Type_ Xslices_Equal___api_Trans_api_Trans_ Xslices_Equal___api_Corr_api_Corr_
def Jzone_Same (X : Tzone_Same) : Inst := mkI 23 upL90 .nil upL9 .nil X
def Izone_Same : Inst := Jzone_Same Xzone_Same
theorem Ezone_Same (xslices_Equal___api_Type_api_Type_ : Tslices_Equal___api_Type_api_Type_) (xslices_Equal___api_Trans_api_Trans_ : Tslices_Equal___api_Trans_api_Trans_) (xslices_Equal___api_Corr_api_Corr_ : Tslices_Equal___api_Corr_api_Corr_) : EqF Tryz.prog 40 gives Tryz.f23 [Jslices_Equal___api_Type_api_Type_ xslices_Equal___api_Type_api_Type_, Jslices_Equal___api_Trans_api_Trans_ xslices_Equal___api_Trans_api_Trans_, Jslices_Equal___api_Corr_api_Corr_ xslices_Equal___api_Corr_api_Corr_] [] (Jzone_Same (Yzone_Same xslices_Equal___api_Type_api_Type_ xslices_Equal___api_Trans_api_Trans_ xslices_Equal___api_Corr_api_Corr_)) := fun x y K => by kernel_rfl
theorem Izone_Same_ok : InstOk Tryz.prog G.1 Izone_Same := iok (gives := gives) [] (okCons Islices_Equal___api_Type_api_Type__ok (okCons Islices_Equal___api_Trans_api_Trans__ok (okCons Islices_Equal___api_Corr_api_Corr__ok okNil))) 40 follows Tryz.func23 (by kernel_rfl) (fun x => by kernel_rfl) (Ezone_Same Xslices_Equal___api_Type_api_Type_ Xslices_Equal___api_Trans_api_Trans_ Xslices_Equal___api_Corr_api_Corr_)
abbrev Tepactlaw20_TzifApart : Type := uQ58 → uQ58 → (Bool → Prop) → Prop
def Yepactlaw20_TzifApart (xepactlaw20_small : Tepactlaw20_small) (xepactlaw16_Few : Tepactlaw16_Few) (xtzif_Encode : Ttzif_Encode) (xzone_Same : Tzone_Same) (a0 : uQ58) (a1 : uQ58) (K : Bool → Prop) : Prop :=
 xepactlaw20_small (fun r2 =>
 xepactlaw16_Few a0 (fun r3 =>
 xepactlaw16_Few a1 (fun r4 =>
 (if (!r3) then
 K r2
 else
 (if (!r4) then
 K r2
 else
 xtzif_Encode a0 (fun r5 r6 r7 r8 =>
 xtzif_Encode a1 (fun r9 r10 r11 r12 =>
 (if r2 then
 (if (!r5) then
 (
 (dup (
 K true))
 ∧
 (dup (
 (dup (
 K true)))))
 else
 (if (!r9) then
 (
 (dup (
 K true))
 ∧
 (dup (
 (dup (
 K true)))))
 else
 (
 (if Eng.allU8 r6 then
 (
 (if Eng.allU8 r10 then
 xzone_Same a0 a1 (fun r13 =>
 K ((ByteArray.toList (Eng.packB r6) == ByteArray.toList (Eng.packB r10)) == r13))
 else
 False)
 ∧
 xzone_Same a0 a1 (fun r14 =>
 (if Eng.allU8 r10 then
 K ((ByteArray.toList (Eng.packB r6) == ByteArray.toList (Eng.packB r10)) == r14)
 else
 False)))
 else
 False)
 ∧
 (
 (if Eng.allU8 r10 then
 (
 (if Eng.allU8 r6 then
 xzone_Same a0 a1 (fun r15 =>
 K ((ByteArray.toList (Eng.packB r6) == ByteArray.toList (Eng.packB r10)) == r15))
 else
 False)
 ∧
 xzone_Same a0 a1 (fun r16 =>
 (if Eng.allU8 r6 then
 K ((ByteArray.toList (Eng.packB r6) == ByteArray.toList (Eng.packB r10)) == r16)
 else
 False)))
 else
 False)
 ∧
 xzone_Same a0 a1 (fun r17 =>
 (
 (if Eng.allU8 r6 then
 (if Eng.allU8 r10 then
 K ((ByteArray.toList (Eng.packB r6) == ByteArray.toList (Eng.packB r10)) == r17)
 else
 False)
 else
 False)
 ∧
 (if Eng.allU8 r10 then
 (if Eng.allU8 r6 then
 K ((ByteArray.toList (Eng.packB r6) == ByteArray.toList (Eng.packB r10)) == r17)
 else
 False)
 else
 False)))))))
 else
 (
 (dup (
 K false))
 ∧
 (dup (
 (dup (
 K false)))))))))))))
def Xepactlaw20_TzifApart : Tepactlaw20_TzifApart := Yepactlaw20_TzifApart Xepactlaw20_small Xepactlaw16_Few Xtzif_Encode Xzone_Same
def Jepactlaw20_TzifApart (X : Tepactlaw20_TzifApart) : Inst := mkI 7 upL90 .nil upL9 .nil X
def Iepactlaw20_TzifApart : Inst := Jepactlaw20_TzifApart Xepactlaw20_TzifApart
theorem Eepactlaw20_TzifApart (xepactlaw20_small : Tepactlaw20_small) (xepactlaw16_Few : Tepactlaw16_Few) (xtzif_Encode : Ttzif_Encode) (xzone_Same : Tzone_Same) : EqF Tryz.prog 54 gives Tryz.f7 [Jepactlaw20_small xepactlaw20_small, Jepactlaw16_Few xepactlaw16_Few, Jtzif_Encode xtzif_Encode, Jzone_Same xzone_Same] [] (Jepactlaw20_TzifApart (Yepactlaw20_TzifApart xepactlaw20_small xepactlaw16_Few xtzif_Encode xzone_Same)) := fun x y K => by kernel_rfl
theorem Iepactlaw20_TzifApart_ok : InstOk Tryz.prog G.1 Iepactlaw20_TzifApart := iok (gives := gives) [] (okCons Iepactlaw20_small_ok (okCons Iepactlaw16_Few_ok (okCons Itzif_Encode_ok (okCons Izone_Same_ok okNil)))) 54 follows Tryz.func7 (by kernel_rfl) (fun x => by kernel_rfl) (Eepactlaw20_TzifApart Xepactlaw20_small Xepactlaw16_Few Xtzif_Encode Xzone_Same)
end Go.Proofs.YtbnpclndiichcaaGreatDoor
end
section
set_option linter.unusedVariables false
set_option linter.unusedSimpArgs false
set_option linter.unusedVariables false
namespace Go.Proofs.YtbnpclndiichcaaGreatDoor
open Go Go.Proofs.YtbnpclndiichcaaGreatDoor.Eng
abbrev akTzifApart0 : AK := (.st (.cons (.sl (.st (.cons (.int .i64) (.cons .bool (.cons .str .nil))))) (.cons (.sl (.st (.cons (.int .i64) (.cons (.int .i64) .nil)))) (.cons (.sl (.st (.cons (.int .i64) (.cons (.int .i64) .nil)))) (.cons .str (.cons (.int .i64) .nil))))))
abbrev akTzifApart1 : AK := (.st (.cons (.sl (.st (.cons (.int .i64) (.cons .bool (.cons .str .nil))))) (.cons (.sl (.st (.cons (.int .i64) (.cons (.int .i64) .nil)))) (.cons (.sl (.st (.cons (.int .i64) (.cons (.int .i64) .nil)))) (.cons .str (.cons (.int .i64) .nil))))))
/-- The law over plain data. -/
def PureTzifApart : Prop := ∀ (a0 : akTzifApart0.T) (h0 : akTzifApart0.good a0) (a1 : akTzifApart1.T) (h1 : akTzifApart1.good a1), Xepactlaw20_TzifApart (akTzifApart0.DV a0) (akTzifApart1.DV a1) (fun b => b = true)
end Go.Proofs.YtbnpclndiichcaaGreatDoor
end
section
set_option linter.unusedVariables false
set_option linter.unusedSimpArgs false
namespace Go.Proofs.YtbnpclndiichcaaGreatDoor.Pl
open Go
set_option linter.unusedVariables false
set_option linter.unusedSimpArgs false
def digsN : Nat → Nat → List UInt8
  | 0, _ => []
  | k + 1, u => if u < 10 then [UInt8.ofNat (48 + u)] else digsN k (u / 10) ++ [UInt8.ofNat (48 + u % 10)]
def itoaK (n : Int) : List UInt8 := if n < 0 then 45 :: digsN 20 n.natAbs else digsN 20 n.toNat
def isDig (c : UInt8) : Bool := 48 ≤ c.toNat && c.toNat ≤ 57
/-- A text out of a list. -/
abbrev S (l : List UInt8) : ByteArray := ⟨l.toArray⟩
theorem S_size (l : List UInt8) : (S l).size = l.length := by simp [S, ByteArray.size]
theorem S_append (a b : List UInt8) : S a ++ S b = S (a ++ b) := ByteArray.mk_append_mk a b
theorem S_toList (l : List UInt8) : (S l).toList = l := ByteArray.toList_mk l
theorem S_data (l : List UInt8) : (S l).data.toList = l := by simp [S]
theorem S_extract (l : List UInt8) (a b : Nat) : (S l).extract a b = S ((l.drop a).take (b - a)) := by rw [Lib.extract_eq, S_data]
theorem S_take (l : List UInt8) (b : Nat) : (S l).extract 0 b = S (l.take b) := by rw [S_extract]; simp
theorem u8_eq {a b : UInt8} (h : a.toNat = b.toNat) : a = b := UInt8.toNat_inj.1 h
/-- How many digits a list begins with. -/
def dl (l : List UInt8) : Nat := (l.takeWhile isDig).length
theorem dl_le (l : List UInt8) : dl l ≤ l.length := by unfold dl; exact (List.takeWhile_sublist _).length_le
theorem dl_cons (c : UInt8) (l : List UInt8) : dl (c :: l) = if isDig c = true then dl l + 1 else 0 := by
  unfold dl; rw [List.takeWhile_cons]; split <;> simp
/-- The number of a row of digits. -/
def valL (l : List UInt8) : Nat := l.foldl (fun n c => 10 * n + (c.toNat - 48)) 0
theorem decFrom_val : ∀ (l : List UInt8) (acc : Nat), (∀ c ∈ l, isDig c = true) → Lib.decFrom acc l = some (l.foldl (fun n c => 10 * n + (c.toNat - 48)) acc)
  | [], acc, _ => rfl
  | c :: l, acc, h => by
    have hc : isDig c = true := h c (by simp)
    unfold isDig at hc
    simp at hc
    unfold Lib.decFrom Lib.digitVal
    rw [if_pos hc]
    simp only []
    rw [decFrom_val l _ (fun c' hc' => h c' (by simp [hc'])), List.foldl_cons, Nat.mul_comm]
theorem atoi_val (l : List UInt8) (hne : l ≠ []) (h : ∀ c ∈ l, isDig c = true) : Lib.atoi l = some (valL l : Int) := by
  cases l with
  | nil => exact absurd rfl hne
  | cons c r =>
    have hc : isDig c = true := h c (by simp)
    unfold isDig at hc
    simp at hc
    have h1 : (c == 45) = false := by rw [beq_eq_false_iff_ne]; rintro rfl; simp at hc
    have h2 : (c == 43) = false := by rw [beq_eq_false_iff_ne]; rintro rfl; simp at hc
    simp only [Lib.atoi, Lib.decNat, h1, h2, Bool.false_eq_true, if_false, List.isEmpty_cons]
    rw [decFrom_val _ _ h]
    rfl
theorem take_dl_dig (l : List UInt8) (k : Nat) (h : k ≤ dl l) : ∀ c ∈ l.take k, isDig c = true := by
  intro c hc
  have hs : l.take k = (l.takeWhile isDig).take k := by
    conv => lhs; rw [← List.takeWhile_append_dropWhile (p := isDig) (l := l)]
    rw [List.take_append_of_le_length h]
  rw [hs] at hc
  have hall : (l.takeWhile isDig).all isDig = true := List.all_takeWhile
  exact List.all_eq_true.1 hall c (List.mem_of_mem_take hc)
end Go.Proofs.YtbnpclndiichcaaGreatDoor.Pl
end
section
set_option linter.unusedVariables false
set_option linter.unusedSimpArgs false
namespace Go.Proofs.YtbnpclndiichcaaGreatDoor.Pl
open Go
set_option linter.unusedVariables false
set_option linter.unusedSimpArgs false
/-- What stands behind a colon: minutes, or seconds. -/
def sixtyL : List UInt8 → Int × List UInt8 × Bool
  | c :: a :: b :: r => if c = 58 ∧ isDig a = true ∧ isDig b = true ∧ a.toNat ≤ 53 then (10 * (a.toNat - 48) + (b.toNat - 48), r, true) else (0, c :: a :: b :: r, false)
  | l => (0, l, false)
theorem foldl_lt : ∀ (l : List UInt8) (acc : Nat), (∀ c ∈ l, isDig c = true) → l.foldl (fun n c => 10 * n + (c.toNat - 48)) acc < (acc + 1) * 10 ^ l.length
  | [], acc, _ => by simp
  | c :: l, acc, h => by
    have hc : isDig c = true := h c (by simp)
    unfold isDig at hc
    simp at hc
    have := foldl_lt l (10 * acc + (c.toNat - 48)) (fun c' hc' => h c' (by simp [hc']))
    rw [List.foldl_cons, List.length_cons, Nat.pow_succ]
    refine Nat.lt_of_lt_of_le this ?_
    have h1 : (10 * acc + (c.toNat - 48) + 1) ≤ (acc + 1) * 10 := by omega
    calc (10 * acc + (c.toNat - 48) + 1) * 10 ^ l.length ≤ ((acc + 1) * 10) * 10 ^ l.length := Nat.mul_le_mul_right _ h1
      _ = (acc + 1) * (10 ^ l.length * 10) := by rw [Nat.mul_assoc, Nat.mul_comm 10]
theorem valL_lt (l : List UInt8) (h : ∀ c ∈ l, isDig c = true) : valL l < 10 ^ l.length := by
  have := foldl_lt l 0 h
  simpa [valL] using this
theorem sixty_bd (l : List UInt8) : 0 ≤ (sixtyL l).1 ∧ (sixtyL l).1 ≤ 59 := by
  unfold sixtyL
  split
  · split
    · rename_i h
      obtain ⟨_, ha, hb, h5⟩ := h
      unfold isDig at ha hb
      simp at ha hb
      simp only []
      omega
    · simp
  · simp
/-- A time. -/
def signL : List UInt8 → Int × List UInt8
  | [] => (1, [])
  | c :: r => if c = 45 then (-1, r) else if c = 43 then (1, r) else (1, c :: r)
def hourL (t : List UInt8) : Nat × Nat :=
  if valL (t.take (min (dl t) 3)) > 167 then (valL (t.take (min (dl t) 3)) / 10, min (dl t) 3 - 1) else (valL (t.take (min (dl t) 3)), min (dl t) 3)
def moreL (p : Int × List UInt8 × Bool) : Int × List UInt8 × Bool := if p.2.2 = true then sixtyL p.2.1 else (0, p.2.1, false)
def timeL (l : List UInt8) : Int × List UInt8 × Bool :=
  if dl (signL l).2 = 0 then (0, l, false)
  else
    ((signL l).1 * ((hourL (signL l).2).1 * 3600 + (sixtyL ((signL l).2.drop (hourL (signL l).2).2)).1 * 60 + (moreL (sixtyL ((signL l).2.drop (hourL (signL l).2).2))).1),
      (moreL (sixtyL ((signL l).2.drop (hourL (signL l).2).2))).2.1, true)
theorem hour_bd (t : List UInt8) : (hourL t).1 ≤ 167 ∧ (hourL t).2 ≤ dl t ∧ (hourL t).2 ≤ 3 ∧ (dl t ≠ 0 → 1 ≤ (hourL t).2) := by
  have hv : valL (t.take (min (dl t) 3)) < 10 ^ (t.take (min (dl t) 3)).length := valL_lt _ (take_dl_dig t _ (Nat.min_le_left _ _))
  have hl : (t.take (min (dl t) 3)).length ≤ 3 := by rw [List.length_take]; omega
  have h3 : 10 ^ (t.take (min (dl t) 3)).length ≤ 10 ^ 3 := Nat.pow_le_pow_right (by omega) hl
  have hm : min (dl t) 3 ≤ dl t := Nat.min_le_left _ _
  have hm3 : min (dl t) 3 ≤ 3 := Nat.min_le_right _ _
  unfold hourL
  split
  · rename_i hgt
    refine ⟨by simp only []; omega, by simp only []; omega, by simp only []; omega, fun h0 => ?_⟩
    simp only []
    have : ¬ (t.take (min (dl t) 3)).length ≤ 1 := fun h1 => by
      have : 10 ^ (t.take (min (dl t) 3)).length ≤ 10 ^ 1 := Nat.pow_le_pow_right (by omega) h1
      omega
    rw [List.length_take] at this
    omega
  · refine ⟨by simp only []; omega, by simp only []; omega, by simp only []; omega, fun h0 => by simp only []; omega⟩
def pairL (m : Nat) : List UInt8 := 58 :: (digsN 20 (m / 10) ++ digsN 20 (m % 10))
/-- The text of a time. -/
def clockB (a : Nat) : List UInt8 := digsN 20 (a / 3600) ++ (if a % 60 ≠ 0 then pairL (a / 60 % 60) ++ pairL (a % 60) else if a / 60 % 60 ≠ 0 then pairL (a / 60 % 60) else [])
def clockL (sec : Int) : List UInt8 × Bool := if -604799 ≤ sec ∧ sec ≤ 604799 then ((if sec < 0 then [45] else []) ++ clockB sec.natAbs, true) else ([], false)
theorem sixty_drop (l : List UInt8) : ∃ j, j ≤ l.length ∧ (sixtyL l).2.1 = l.drop j := by
  unfold sixtyL
  split
  · split
    · exact ⟨3, by simp, rfl⟩
    · exact ⟨0, by simp, rfl⟩
  · exact ⟨0, by simp, rfl⟩
theorem sign_drop (l : List UInt8) : ∃ j, j ≤ l.length ∧ (signL l).2 = l.drop j ∧ ((signL l).1 = 1 ∨ (signL l).1 = -1) := by
  unfold signL
  split
  · exact ⟨0, by simp, rfl, .inl rfl⟩
  · split
    · exact ⟨1, by simp, rfl, .inr rfl⟩
    · split
      · exact ⟨1, by simp, rfl, .inl rfl⟩
      · exact ⟨0, by simp, rfl, .inl rfl⟩
theorem time_drop (l : List UInt8) : ∃ j, j ≤ l.length ∧ (timeL l).2.1 = l.drop j ∧ ((timeL l).2.2 = true ↔ 0 < j) ∧ -604799 ≤ (timeL l).1 ∧ (timeL l).1 ≤ 604799 ∧ ((timeL l).2.2 = false → (timeL l).1 = 0 ∧ j = 0) := by
  obtain ⟨j0, h0, e0, hs⟩ := sign_drop l
  unfold timeL
  by_cases hd : dl (signL l).2 = 0
  · rw [if_pos hd]
    exact ⟨0, by omega, by simp, by simp, by simp, by simp, by simp⟩
  · rw [if_neg hd]
    obtain ⟨b1, b2, b3, b4⟩ := hour_bd (signL l).2
    have b4' := b4 hd
    have hdl := dl_le (signL l).2
    obtain ⟨j1, h1, e1⟩ := sixty_drop ((signL l).2.drop (hourL (signL l).2).2)
    have s1 := sixty_bd ((signL l).2.drop (hourL (signL l).2).2)
    have key : ∃ j2, j2 ≤ (sixtyL ((signL l).2.drop (hourL (signL l).2).2)).2.1.length ∧ (moreL (sixtyL ((signL l).2.drop (hourL (signL l).2).2))).2.1 = (sixtyL ((signL l).2.drop (hourL (signL l).2).2)).2.1.drop j2 ∧
        0 ≤ (moreL (sixtyL ((signL l).2.drop (hourL (signL l).2).2))).1 ∧ (moreL (sixtyL ((signL l).2.drop (hourL (signL l).2).2))).1 ≤ 59 := by
      unfold moreL
      split
      · obtain ⟨j2, h2, e2⟩ := sixty_drop (sixtyL ((signL l).2.drop (hourL (signL l).2).2)).2.1
        exact ⟨j2, h2, e2, sixty_bd _⟩
      · exact ⟨0, by omega, rfl, by simp, by simp⟩
    obtain ⟨j2, h2, e2, hb1, hb2⟩ := key
    rw [e2, e1, e0, List.drop_drop, List.drop_drop, List.drop_drop]
    rw [e1] at h2
    rw [e0] at h1 h2 hdl b2
    simp only [List.length_drop] at h1 h2 hdl
    rw [e0] at b4' b3 s1 hb1 hb2
    refine ⟨_, ?_, rfl, ?_, ?_⟩
    · omega
    · simp; omega
    · generalize (sixtyL (List.drop (hourL (List.drop j0 l)).2 (List.drop j0 l))).1 = x at *
      generalize (moreL (sixtyL (List.drop (hourL (List.drop j0 l)).2 (List.drop j0 l)))).1 = y at *
      rw [e0] at b1
      generalize (hourL (List.drop j0 l)).1 = v at *
      rcases hs with hs | hs <;> rw [hs] <;> refine ⟨?_, ?_, by simp⟩ <;> omega
end Go.Proofs.YtbnpclndiichcaaGreatDoor.Pl
end
section
set_option linter.unusedVariables false
set_option linter.unusedSimpArgs false
namespace Go.Proofs.YtbnpclndiichcaaGreatDoor.Pl
open Go
set_option linter.unusedVariables false
set_option linter.unusedSimpArgs false
/-- A leap year. -/
def leapY (y : Int) : Bool := decide (y % 4 = 0 ∧ (y % 100 ≠ 0 ∨ y % 400 = 0))
/-- The number of a year's first day. -/
def fst (y : Int) : Int := 365 * (y - 1) + (y - 1) / 4 - (y - 1) / 100 + (y - 1) / 400 - 719162
/-- How many days of a common year lie ahead of a month. -/
def cum0 (m : Int) : Int := if m = 1 then 0 else if m = 2 then 31 else if m = 3 then 59 else if m = 4 then 90 else if m = 5 then 120 else if m = 6 then 151 else if m = 7 then 181 else if m = 8 then 212 else if m = 9 then 243 else if m = 10 then 273 else if m = 11 then 304 else if m = 12 then 334 else 365
def cum (y m : Int) : Int := cum0 m + if 2 < m ∧ leapY y = true then 1 else 0
def dim (y m : Int) : Int := if m = 2 then (if leapY y = true then 29 else 28) else if m = 4 then 30 else if m = 6 then 30 else if m = 9 then 30 else if m = 11 then 30 else 31
/-- The number of a date. -/
def num (y m d : Int) : Int := fst y + cum y m + d - 1
/-- The first day of March-year b of an era. -/
def st (b : Int) : Int := 365 * b + b / 4 - b / 100
def gy (o : Int) : Int := o - o / 1460 + o / 36524 - o / 146096
/-- The program's own date of a number. -/
def era (n : Int) : Int := (n + 719468) / 146097
def ofE (n : Int) : Int := (n + 719468) % 146097
def yrs (n : Int) : Int := gy (ofE n) / 365
def doy (n : Int) : Int := ofE n - st (yrs n)
def mon (n : Int) : Int := (5 * doy n + 2) / 153
def dayP (n : Int) : Int := doy n - (153 * mon n + 2) / 5 + 1
def monP (n : Int) : Int := if mon n + 3 > 12 then mon n + 3 - 12 else mon n + 3
def yearP (n : Int) : Int := 400 * era n + (if mon n + 3 > 12 then yrs n + 1 else yrs n)
/-- A day's place in the week, from Sunday on. -/
def wk (n : Int) : Int := (n + 4) % 7
end Go.Proofs.YtbnpclndiichcaaGreatDoor.Pl
end
section
set_option linter.unusedVariables false
set_option linter.unusedSimpArgs false
namespace Go.Proofs.YtbnpclndiichcaaGreatDoor.Pl
open Go
set_option linter.unusedVariables false
set_option linter.unusedSimpArgs false
def rightR (K A B C X : Int) : Bool :=
  decide ((-604799 ≤ X ∧ X ≤ 604799) ∧ ((K = 0 ∧ 1 ≤ A ∧ A ≤ 12 ∧ 1 ≤ B ∧ B ≤ 5 ∧ 0 ≤ C ∧ C ≤ 6) ∨ (K = 1 ∧ 1 ≤ A ∧ A ≤ 365 ∧ B = 0 ∧ C = 0) ∨ (K = 2 ∧ 0 ≤ A ∧ A ≤ 365 ∧ B = 0 ∧ C = 0)))
theorem right_iff (K A B C X : Int) : rightR K A B C X = true ↔ ((-604799 ≤ X ∧ X ≤ 604799) ∧ ((K = 0 ∧ 1 ≤ A ∧ A ≤ 12 ∧ 1 ≤ B ∧ B ≤ 5 ∧ 0 ≤ C ∧ C ≤ 6) ∨ (K = 1 ∧ 1 ≤ A ∧ A ≤ 365 ∧ B = 0 ∧ C = 0) ∨ (K = 2 ∧ 0 ≤ A ∧ A ≤ 365 ∧ B = 0 ∧ C = 0))) := by
  unfold rightR; exact decide_eq_true_iff
/-- The place of a rule's day in its month, from 0 on. -/
def offW (A B C y : Int) : Int := let k := (C - wk (num y A 1) + 7) % 7 + 7 * (B - 1); if k ≥ dim y A then k - 7 else k
def ruleDay (K A B C y : Int) : Int := if K = 2 then fst y + A else if K = 1 then (if A ≤ 59 ∨ leapY y = false then fst y - 1 + A else fst y + A) else num y A 1 + offW A B C y
def cutP (c : UInt8) (l : List UInt8) : List UInt8 × Bool := if l.head? = some c then (l.tail, true) else (l, false)
theorem cut_drop (c : UInt8) (l : List UInt8) : ∃ j, j ≤ l.length ∧ (cutP c l).1 = l.drop j := by
  unfold cutP
  split
  · cases l with
    | nil => rename_i h; simp at h
    | cons a r => exact ⟨1, by simp, rfl⟩
  · exact ⟨0, by omega, rfl⟩
/-- A number of so many digits at most. -/
def numberL (l : List UInt8) (m : Nat) : Int × List UInt8 × Bool := if dl l = 0 ∨ m < dl l then (0, l, false) else ((valL (l.take (dl l)) : Int), l.drop (dl l), true)
theorem numberL_drop (l : List UInt8) (m : Nat) : ∃ j, j ≤ l.length ∧ (numberL l m).2.1 = l.drop j ∧ ((numberL l m).2.2 = true → 0 < j) := by
  unfold numberL
  split
  · exact ⟨0, by omega, rfl, by simp⟩
  · exact ⟨dl l, dl_le l, rfl, fun _ => by omega⟩
def weekL (l : List UInt8) : Int × Int × Int × List UInt8 × Bool :=
  ((numberL l 2).1, (numberL (cutP 46 (numberL l 2).2.1).1 1).1, (numberL (cutP 46 (numberL (cutP 46 (numberL l 2).2.1).1 1).2.1).1 1).1,
    (numberL (cutP 46 (numberL (cutP 46 (numberL l 2).2.1).1 1).2.1).1 1).2.1,
    (numberL l 2).2.2 && (numberL (cutP 46 (numberL l 2).2.1).1 1).2.2 && (numberL (cutP 46 (numberL (cutP 46 (numberL l 2).2.1).1 1).2.1).1 1).2.2 && (cutP 46 (numberL l 2).2.1).2 && (cutP 46 (numberL (cutP 46 (numberL l 2).2.1).1 1).2.1).2)
theorem weekL_drop (l : List UInt8) : ∃ j, j ≤ l.length ∧ (weekL l).2.2.2.1 = l.drop j ∧ ((weekL l).2.2.2.2 = true → 0 < j) := by
  unfold weekL
  obtain ⟨j1, h1, e1, p1⟩ := numberL_drop l 2
  obtain ⟨j2, h2, e2⟩ := cut_drop 46 (numberL l 2).2.1
  obtain ⟨j3, h3, e3, _⟩ := numberL_drop (cutP 46 (numberL l 2).2.1).1 1
  obtain ⟨j4, h4, e4⟩ := cut_drop 46 (numberL (cutP 46 (numberL l 2).2.1).1 1).2.1
  obtain ⟨j5, h5, e5, _⟩ := numberL_drop (cutP 46 (numberL (cutP 46 (numberL l 2).2.1).1 1).2.1).1 1
  refine ⟨j1 + j2 + j3 + j4 + j5, ?_, ?_, ?_⟩
  · rw [e4, List.length_drop, e3, List.length_drop, e2, List.length_drop, e1, List.length_drop] at h5
    rw [e3, List.length_drop, e2, List.length_drop, e1, List.length_drop] at h4
    rw [e2, List.length_drop, e1, List.length_drop] at h3
    rw [e1, List.length_drop] at h2
    omega
  · simp only []
    rw [e5, e4, e3, e2, e1]
    simp only [List.drop_drop]
  · intro h
    simp only [Bool.and_eq_true] at h
    have := p1 h.1.1.1.1
    omega
/-- A rule without its time. -/
def dateL (l : List UInt8) : Int × Int × Int × Int × List UInt8 × Bool :=
  if l.head? = some 77 then (0, weekL l.tail) else if l.head? = some 74 then (1, (numberL l.tail 3).1, 0, 0, (numberL l.tail 3).2) else (2, (numberL l 3).1, 0, 0, (numberL l 3).2)
theorem dateL_drop (l : List UInt8) : ∃ j, j ≤ l.length ∧ (dateL l).2.2.2.2.1 = l.drop j ∧ ((dateL l).2.2.2.2.2 = true → 0 < j) := by
  unfold dateL
  by_cases h : l.head? = some 77
  · rw [if_pos h]
    obtain ⟨a, r, rfl⟩ : ∃ a r, l = a :: r := by cases l with | nil => simp at h | cons a r => exact ⟨a, r, rfl⟩
    obtain ⟨j, hj, e, _⟩ := weekL_drop r
    exact ⟨j + 1, by simp; omega, e, fun _ => by omega⟩
  · rw [if_neg h]
    by_cases h' : l.head? = some 74
    · rw [if_pos h']
      obtain ⟨a, r, rfl⟩ : ∃ a r, l = a :: r := by cases l with | nil => simp at h' | cons a r => exact ⟨a, r, rfl⟩
      obtain ⟨j, hj, e, _⟩ := numberL_drop r 3
      exact ⟨j + 1, by simp; omega, e, fun _ => by omega⟩
    · rw [if_neg h']
      exact numberL_drop l 3
/-- A rule. -/
def parseL (l : List UInt8) : Int × Int × Int × Int × Int × List UInt8 × Bool :=
  if (dateL l).2.2.2.2.2 = true then
    (if (dateL l).2.2.2.2.1.head? = some 47 then
      (if (timeL (dateL l).2.2.2.2.1.tail).2.2 = true ∧ rightR (dateL l).1 (dateL l).2.1 (dateL l).2.2.1 (dateL l).2.2.2.1 (timeL (dateL l).2.2.2.2.1.tail).1 = true then
        ((dateL l).1, (dateL l).2.1, (dateL l).2.2.1, (dateL l).2.2.2.1, (timeL (dateL l).2.2.2.2.1.tail).1, (timeL (dateL l).2.2.2.2.1.tail).2.1, true) else (0, 0, 0, 0, 0, l, false))
    else if rightR (dateL l).1 (dateL l).2.1 (dateL l).2.2.1 (dateL l).2.2.2.1 7200 = true then
      ((dateL l).1, (dateL l).2.1, (dateL l).2.2.1, (dateL l).2.2.2.1, 7200, (dateL l).2.2.2.2.1, true) else (0, 0, 0, 0, 0, l, false))
  else (0, 0, 0, 0, 0, l, false)
theorem parse_good (l : List UInt8) (h : (parseL l).2.2.2.2.2.2 = true) :
    rightR (parseL l).1 (parseL l).2.1 (parseL l).2.2.1 (parseL l).2.2.2.1 (parseL l).2.2.2.2.1 = true ∧ ∃ j, 0 < j ∧ j ≤ l.length ∧ (parseL l).2.2.2.2.2.1 = l.drop j := by
  obtain ⟨j, hj, e, hp⟩ := dateL_drop l
  revert h
  unfold parseL
  by_cases hok : (dateL l).2.2.2.2.2 = true
  · have hp := hp hok
    rw [if_pos hok]
    by_cases hc : (dateL l).2.2.2.2.1.head? = some 47
    · rw [if_pos hc]
      by_cases hR : (timeL (dateL l).2.2.2.2.1.tail).2.2 = true ∧ rightR (dateL l).1 (dateL l).2.1 (dateL l).2.2.1 (dateL l).2.2.2.1 (timeL (dateL l).2.2.2.2.1.tail).1 = true
      · rw [if_pos hR]
        intro _
        obtain ⟨i, hi, ei, _⟩ := time_drop (dateL l).2.2.2.2.1.tail
        refine ⟨hR.2, j + 1 + i, by omega, ?_, ?_⟩
        · rw [List.length_tail, e, List.length_drop] at hi
          have : (dateL l).2.2.2.2.1.length ≠ 0 := by intro h0; rw [List.eq_nil_of_length_eq_zero h0] at hc; simp at hc
          rw [e, List.length_drop] at this
          omega
        · simp only []
          rw [ei, e, ← List.drop_one, List.drop_drop, List.drop_drop]
          congr 1; omega
      · rw [if_neg hR]; intro h; simp at h
    · rw [if_neg hc]
      by_cases hR : rightR (dateL l).1 (dateL l).2.1 (dateL l).2.2.1 (dateL l).2.2.2.1 7200 = true
      · rw [if_pos hR]
        intro _
        exact ⟨hR, j, hp, hj, e⟩
      · rw [if_neg hR]; intro h; simp at h
  · rw [if_neg hok]; intro h; simp at h
theorem parse_bad (l : List UInt8) (h : (parseL l).2.2.2.2.2.2 = false) : parseL l = (0, 0, 0, 0, 0, l, false) := by
  revert h
  unfold parseL
  split
  · split
    · split
      · intro h; simp at h
      · intro _; rfl
    · split
      · intro h; simp at h
      · intro _; rfl
  · intro _; rfl
/-- A rule's text. -/
def headL (K A B C : Int) : List UInt8 := if K = 0 then 77 :: (itoaK A ++ 46 :: (itoaK B ++ 46 :: itoaK C)) else if K = 1 then 74 :: itoaK A else itoaK A
def tailL (X : Int) : List UInt8 := if X = 7200 then [] else 47 :: (clockL X).1
def textL (K A B C X : Int) : List UInt8 × Bool := if rightR K A B C X = true then (headL K A B C ++ tailL X, true) else ([], false)
end Go.Proofs.YtbnpclndiichcaaGreatDoor.Pl
end
section
set_option linter.unusedVariables false
set_option linter.unusedSimpArgs false
namespace Go.Proofs.YtbnpclndiichcaaGreatDoor.Pl
open Go Go.Proofs.YtbnpclndiichcaaGreatDoor.Eng
set_option linter.unusedVariables false
theorem ifT {c : Prop} [Decidable c] {a b : Prop} (h : c) (ha : a) : if c then a else b := by rw [if_pos h]; exact ha
theorem ifF {c : Prop} [Decidable c] {a b : Prop} (h : ¬ c) (hb : b) : if c then a else b := by rw [if_neg h]; exact hb
theorem ifC {c : Prop} [Decidable c] {a b : Prop} (h1 : c → a) (h2 : ¬ c → b) : if c then a else b := by
  by_cases h : c
  · exact ifT h (h1 h)
  · exact ifF h (h2 h)
theorem w64_in {n : Int} (h0 : -9223372036854775808 ≤ n) (h1 : n ≤ 9223372036854775807) : w64 n = n := by
  simp only [w64, IntKind.wrap, IntKind.bits, IntKind.signed]
  try simp
  try omega
theorem bAt0 (c : UInt8) (l : List UInt8) : Eng.bAt (S (c :: l)) 0 = (c.toNat : Int) := rfl
theorem bAt1 (a c : UInt8) (l : List UInt8) : Eng.bAt (S (a :: c :: l)) 1 = (c.toNat : Int) := rfl
theorem lp_ind {α : Type} {F : (α → Prop) → α → Prop} (μ : α → Nat) (I : α → Prop) (h : ∀ x, I x → ∀ k : α → Prop, (∀ y, I y → μ y < μ x → k y) → F k x) {x : α} (hx : I x) : Eng.lp F x := by
  have key : ∀ n x, I x → μ x < n → itrT F n x := by
    intro n
    induction n with
    | zero => intro x _ hn; omega
    | succ n ih => intro x hx hn; exact h x hx _ fun y hy hlt => ih y hy (by omega)
  exact ⟨μ x + 1, key _ _ hx (Nat.lt_succ_self _)⟩
theorem lp_nat {α : Type} {F : (α → Prop) → α → Prop} (st : Nat → α) (N : Nat) (h : ∀ n, n ≤ N → ∀ k : α → Prop, (n < N → k (st (n + 1))) → F k (st n)) : Eng.lp F (st 0) := by
  have key : ∀ d n, n + d = N → itrT F (d + 1) (st n) := by
    intro d
    induction d with
    | zero => intro n hn; exact h n (by omega) _ fun hlt => by omega
    | succ d ih => intro n hn; exact h n (by omega) _ fun hlt => ih (n + 1) (by omega)
  exact ⟨N + 1, key N 0 (by omega)⟩
theorem lp_at {α : Type} {F : (α → Prop) → α → Prop} {x : α} (st : Nat → α) (N : Nat) (h0 : x = st 0) (h : ∀ n, n ≤ N → ∀ k : α → Prop, (n < N → k (st (n + 1))) → F k (st n)) : Eng.lp F x := by
  rw [h0]; exact lp_nat st N h
/-- How many of a list's first elements are not such. -/
def nl (q : UInt8 → Bool) (l : List UInt8) : Nat := (l.takeWhile fun c => !q c).length
theorem nl_le (q : UInt8 → Bool) (l : List UInt8) : nl q l ≤ l.length := by unfold nl; exact (List.takeWhile_sublist _).length_le
theorem nl_cons (q : UInt8 → Bool) (c : UInt8) (l : List UInt8) : nl q (c :: l) = if q c = true then 0 else nl q l + 1 := by
  unfold nl; rw [List.takeWhile_cons]; cases q c <;> simp
theorem nl_any (q : UInt8 → Bool) (l : List UInt8) : l.any q = decide (nl q l < l.length) := by
  induction l with
  | nil => rfl
  | cons c l ih =>
    rw [List.any_cons, nl_cons, ih]
    cases q c <;> simp
theorem nl_of (q : UInt8 → Bool) : ∀ (l : List UInt8) (k : Nat), k ≤ l.length → (∀ c ∈ l.take k, q c = false) → (∀ h : k < l.length, q l[k] = true) → nl q l = k
  | [], k, hk, _, _ => by simp at hk; subst hk; rfl
  | c :: l, 0, _, _, h => by
    have h0 : q c = true := h (by simp)
    rw [nl_cons, if_pos h0]
  | c :: l, k + 1, hk, h1, h2 => by
    have hc := h1 c (by simp)
    rw [nl_cons, if_neg (by rw [hc]; simp), nl_of q l k (by simpa using hk) (fun d hd => h1 d (by rw [List.take_succ_cons]; exact .tail _ hd)) (fun h => by have := h2 (by simpa using h); simpa using this)]
theorem nl_spec (q : UInt8 → Bool) : ∀ (l : List UInt8) (j : Nat) (h : j < l.length), (j < nl q l → q l[j] = false) ∧ (j = nl q l → q l[j] = true)
  | [], j, h => by simp at h
  | c :: l, 0, _ => by
    rw [nl_cons]
    cases hq : q c
    · exact ⟨fun _ => hq, fun h => by simp at h⟩
    · exact ⟨fun h => by simp at h, fun _ => hq⟩
  | c :: l, j + 1, h => by
    have ih := nl_spec q l j (by simpa using h)
    rw [nl_cons]
    cases hq : q c
    · simp only [Bool.false_eq_true, if_false, List.getElem_cons_succ]
      exact ⟨fun h => ih.1 (by omega), fun h => ih.2 (by omega)⟩
    · exact ⟨fun h => by simp at h, fun h => by simp at h⟩
theorem indexByte_nl (l : List UInt8) (c : UInt8) : Lib.indexByte l c = if nl (· == c) l < l.length then (nl (· == c) l : Int) else -1 := by
  induction l with
  | nil => rfl
  | cons b l ih =>
    rw [Lib.indexByte, nl_cons, ih]
    cases hb : (b == c)
    · simp only [Bool.false_eq_true, if_false, List.length_cons]
      by_cases h : nl (· == c) l < l.length
      · rw [if_pos h, if_neg (by simp), if_pos (by omega)]; omega
      · rw [if_neg h, if_pos (by simp), if_neg (by omega)]
    · simp
theorem decode_lo (l : List UInt8) (pos : Nat) (h : pos < l.length) (ha : l[pos].toNat < 128) : Utf8.decode (S l) pos = (l[pos].toNat, 1) := decode_ascii (S l) pos (by rw [S_size]; exact h) ha
theorem decode_hi (l : List UInt8) (pos : Nat) (h : pos < l.length) (ha : 128 ≤ l[pos].toNat) : 128 ≤ (Utf8.decode (S l) pos).1 ∧ 1 ≤ (Utf8.decode (S l) pos).2 := decode_high (S l) pos (by rw [S_size]; exact h) ha
end Go.Proofs.YtbnpclndiichcaaGreatDoor.Pl
end
section
set_option linter.unusedVariables false
set_option linter.unusedSimpArgs false
namespace Go.Proofs.YtbnpclndiichcaaGreatDoor.Pl
open Go
set_option linter.unusedVariables false
set_option linter.unusedSimpArgs false
/-- A text, cut at a sign. -/
def splitL (c : UInt8) (l : List UInt8) : List UInt8 × List UInt8 × Bool := if nl (· == c) l < l.length then (l.take (nl (· == c) l), l.drop (nl (· == c) l + 1), true) else (l, [], false)
/-- A sign that may not be in a name; one that is a letter; names of local times. -/
def badC (c : UInt8) : Bool := !((97 ≤ c.toNat && c.toNat ≤ 122) || (65 ≤ c.toNat && c.toNat ≤ 90) || (48 ≤ c.toNat && c.toNat ≤ 57) || c.toNat == 43 || c.toNat == 45)
def letC (c : UInt8) : Bool := (97 ≤ c.toNat && c.toNat ≤ 122) || (65 ≤ c.toNat && c.toNat ≤ 90)
def abbrL (l : List UInt8) : Bool := decide (3 ≤ l.length ∧ l.length ≤ 16) && !l.any badC
structure Ru where
  k : Int
  a : Int
  b : Int
  c : Int
  x : Int
def Ru.z : Ru := ⟨0, 0, 0, 0, 0⟩
def Ru.ok (r : Ru) : Bool := rightR r.k r.a r.b r.c r.x
def Ru.txt (r : Ru) : List UInt8 := (textL r.k r.a r.b r.c r.x).1
def Ru.at (r : Ru) (y : Int) : Int := ruleDay r.k r.a r.b r.c y * 86400 + r.x
structure Ft where
  so : Int
  sd : Bool
  sa : List UInt8
  wo : Int
  wd : Bool
  wa : List UInt8
  has : Bool
  fr : Ru
  to : Ru
def Ft.z : Ft := ⟨0, false, [], 0, false, [], false, .z, .z⟩
def kindR (o : Int) (d : Bool) (l : List UInt8) (w : Bool) : Bool := abbrL l && (d == w) && decide (-89999 ≤ o ∧ o ≤ 89999)
def Ft.bare (f : Ft) : Prop := f.wo = 0 ∧ f.wd = false ∧ f.wa = [] ∧ (f.fr.k = 0 ∧ f.fr.a = 0 ∧ f.fr.b = 0 ∧ f.fr.c = 0 ∧ f.fr.x = 0) ∧ (f.to.k = 0 ∧ f.to.a = 0 ∧ f.to.b = 0 ∧ f.to.c = 0 ∧ f.to.x = 0)
instance (f : Ft) : Decidable f.bare := inferInstanceAs (Decidable (_ ∧ _))
def Ft.ok (f : Ft) : Bool := kindR f.so f.sd f.sa false && (if f.has = true then kindR f.wo f.wd f.wa true && f.fr.ok && f.to.ok else decide f.bare)
def nameT (l : List UInt8) : List UInt8 := if l.any (fun c => !letC c) = true then 60 :: (l ++ [62]) else l
def Ft.txt (f : Ft) : List UInt8 := nameT f.sa ++ ((clockL (-f.so)).1 ++ (if f.has = true then nameT f.wa ++ ((if f.wo - f.so ≠ 3600 then (clockL (-f.wo)).1 else []) ++ 44 :: (f.fr.txt ++ 44 :: f.to.txt)) else []))
def Ft.text (f : Ft) : List UInt8 × Bool := if f.ok = true then (f.txt, true) else ([], false)
/-- A name that is read: it, whether it may be, what is behind it. -/
def nameP (l : List UInt8) : List UInt8 × Bool × List UInt8 :=
  if l.head? = some 60 then ((splitL 62 l.tail).1, (splitL 62 l.tail).2.2 && abbrL (splitL 62 l.tail).1, (splitL 62 l.tail).2.1)
  else (l.take (nl (fun c => !letC c) l), abbrL (l.take (nl (fun c => !letC c) l)), l.drop (nl (fun c => !letC c) l))
structure Us where
  ok : Bool
  rest : List UInt8
  o : Int
  a : List UInt8
def usualP (l : List UInt8) : Us := ⟨(nameP l).2.1 && (timeL (nameP l).2.2).2.2, (timeL (nameP l).2.2).2.1, -(timeL (nameP l).2.2).1, (nameP l).1⟩
def summerP (so : Int) (l : List UInt8) : Us :=
  if (timeL (nameP l).2.2).2.2 = true then ⟨(nameP l).2.1, (timeL (nameP l).2.2).2.1, -(timeL (nameP l).2.2).1, (nameP l).1⟩ else ⟨(nameP l).2.1, (nameP l).2.2, so + 3600, (nameP l).1⟩
structure Rp where
  ok : Bool
  rest : List UInt8
  r : Ru
def ruleP (l : List UInt8) : Rp := ⟨(parseL (cutP 44 l).1).2.2.2.2.2.2 && (cutP 44 l).2, (parseL (cutP 44 l).1).2.2.2.2.2.1, ⟨(parseL (cutP 44 l).1).1, (parseL (cutP 44 l).1).2.1, (parseL (cutP 44 l).1).2.2.1, (parseL (cutP 44 l).1).2.2.2.1, (parseL (cutP 44 l).1).2.2.2.2.1⟩⟩
def Ft.chk (f : Ft) : Ft × Bool := if f.ok = true then (f, true) else (.z, false)
def Ft.parse (l : List UInt8) : Ft × Bool :=
  if (usualP l).ok = true then
    (if (usualP l).rest = [] then Ft.chk ⟨(usualP l).o, false, (usualP l).a, 0, false, [], false, .z, .z⟩
    else if (summerP (usualP l).o (usualP l).rest).ok = true then
      (if (ruleP (summerP (usualP l).o (usualP l).rest).rest).ok = true then
        (if (ruleP (ruleP (summerP (usualP l).o (usualP l).rest).rest).rest).ok = true then
          (if (ruleP (ruleP (summerP (usualP l).o (usualP l).rest).rest).rest).rest = [] then
            Ft.chk ⟨(usualP l).o, false, (usualP l).a, (summerP (usualP l).o (usualP l).rest).o, true, (summerP (usualP l).o (usualP l).rest).a, true, (ruleP (summerP (usualP l).o (usualP l).rest).rest).r, (ruleP (ruleP (summerP (usualP l).o (usualP l).rest).rest).rest).r⟩
          else (.z, false)) else (.z, false)) else (.z, false)) else (.z, false))
  else (.z, false)
/-- When the summer's time holds in a year. -/
def Ft.spans (f : Ft) (y : Int) : Prop := f.has = true ∧ f.ok = true ∧ 1 ≤ y ∧ y ≤ 9999
instance (f : Ft) (y : Int) : Decidable (f.spans y) := inferInstanceAs (Decidable (_ ∧ _))
def Ft.from' (f : Ft) (y : Int) : Int := f.fr.at y - f.so
def Ft.to' (f : Ft) (y : Int) : Int := f.to.at y - f.wo
/-- Whether a second's year is known; whether the summer's time holds. -/
def inDays (n : Int) : Prop := -719162 ≤ n / 86400 ∧ n / 86400 ≤ 2932896
instance (n : Int) : Decidable (inDays n) := inferInstanceAs (Decidable (_ ∧ _))
def Ft.sum (f : Ft) (p : Int) : Prop := inDays (p + f.so) ∧ f.spans (yearP ((p + f.so) / 86400)) ∧
  ((f.from' (yearP ((p + f.so) / 86400)) ≤ p ∧ p < f.to' (yearP ((p + f.so) / 86400))) ∨ (f.to' (yearP ((p + f.so) / 86400)) ≤ f.from' (yearP ((p + f.so) / 86400)) ∧ (f.from' (yearP ((p + f.so) / 86400)) ≤ p ∨ p < f.to' (yearP ((p + f.so) / 86400)))))
instance (f : Ft) (p : Int) : Decidable (f.sum p) := inferInstanceAs (Decidable (_ ∧ _))
end Go.Proofs.YtbnpclndiichcaaGreatDoor.Pl
end
section
set_option linter.unusedVariables false
set_option linter.unusedSimpArgs false
namespace Go.Proofs.YtbnpclndiichcaaGreatDoor.Pl
open Go Go.Proofs.YtbnpclndiichcaaGreatDoor.Eng
set_option linter.unusedVariables false
set_option linter.unusedSimpArgs false
/-- The first place at which it holds, or the end. -/
def fl {α : Type} (q : α → Bool) : List α → Nat
  | [] => 0
  | x :: l => if q x = true then 0 else fl q l + 1
theorem fl_le {α : Type} (q : α → Bool) : ∀ l : List α, fl q l ≤ l.length
  | [] => Nat.le_refl _
  | x :: l => by
    rw [fl]
    split
    · omega
    · have := fl_le q l; simp; omega
theorem fl_spec {α : Type} (q : α → Bool) : ∀ (l : List α) (j : Nat) (h : j < l.length), (j < fl q l → q l[j] = false) ∧ (j = fl q l → q l[j] = true)
  | [], j, h => by simp at h
  | x :: l, 0, _ => by
    rw [fl]
    cases hq : q x
    · exact ⟨fun _ => hq, fun h => by simp at h⟩
    · exact ⟨fun h => by simp at h, fun _ => hq⟩
  | x :: l, j + 1, h => by
    have ih := fl_spec q l j (by simpa using h)
    rw [fl]
    cases hq : q x
    · simp only [Bool.false_eq_true, if_false, List.getElem_cons_succ]
      exact ⟨fun h => ih.1 (by omega), fun h => ih.2 (by omega)⟩
    · exact ⟨fun h => by simp at h, fun h => by simp at h⟩
theorem fl_of {α : Type} (q : α → Bool) (l : List α) (k : Nat) (hk : k ≤ l.length) (h1 : ∀ i (h : i < l.length), i < k → q l[i] = false) (h2 : ∀ h : k < l.length, q l[k] = true) : fl q l = k := by
  have hle := fl_le q l
  rcases Nat.lt_trichotomy (fl q l) k with h | h | h
  · have h3 : fl q l < l.length := by omega
    have := h1 _ h3 h
    rw [(fl_spec q l _ h3).2 rfl] at this
    cases this
  · exact h
  · have h3 : k < l.length := by omega
    have := (fl_spec q l k h3).1 h
    rw [h2 h3] at this
    cases this
abbrev Rec := Int × Int
/-- Records but the expiry. -/
def lastExp (l : List Rec) : Bool := (decide (l.length = 1) && (l.getD 0 (0, 0)).2 == 0) || (decide (1 < l.length) && (l.getD (l.length - 1) (0, 0)).2 == (l.getD (l.length - 2) (0, 0)).2)
def leapsR (l : List Rec) : List Rec := if lastExp l = true then l.take (l.length - 1) else l
def sumR (l : List Rec) (at' : Int) : Int := match ((leapsR l).take (fl (fun c : Rec => decide (c.1 > at')) (leapsR l))).getLast? with
  | none => 0
  | some c => c.2
/-- Whether records are right; how many are ahead, and the one ahead. -/
def recOk : Nat → Rec → List Rec → Bool
  | _, _, [] => true
  | k, b, c :: r =>
    let e := decide (c.2 - b.2 = 0) && r.isEmpty
    decide (k ≤ 200) && decide (0 ≤ c.1) && (e || decide (c.2 - b.2 = 1) || decide (c.2 - b.2 = -1)) && (decide (k = 0) || decide (c.1 - b.1 ≥ if e = true then 0 else 2419199)) && recOk (k + 1) c r
def recRight (l : List Rec) : Bool := recOk 0 (-2419199, 0) l
abbrev Ty := Int × Bool × List UInt8
structure Zn where
  ty : List Ty
  tr : List Rec
  lp : List Rec
  ft : List UInt8
  v : Int
def eTy (t : Ty) : V := .agg [.c (.int .i64 t.1), .c (.bool t.2.1), .c (.string (S t.2.2))]
def eRec (c : Rec) : V := .agg [.c (.int .i64 c.1), .c (.int .i64 c.2)]
def tupZ (z : Zn) : List V × List V × List V × ByteArray × Int × Unit := (z.ty.map eTy, z.tr.map eRec, z.lp.map eRec, S z.ft, z.v, ())
/-- Names, each once, with an end behind each. -/
def poolN : List (List UInt8) → List (List UInt8) → Nat
  | _, [] => 0
  | had, s :: r => if had.contains s = true then poolN had r else s.length + 1 + poolN (s :: had) r
def nin (n a b : Int) : Bool := decide (a ≤ n ∧ n ≤ b)
def countOk (z : Zn) : Bool := (z.ty.map (·.2.2)).all abbrL && decide (poolN [] (z.ty.map (·.2.2)) ≤ 256) && nin z.lp.length 0 201 && nin z.tr.length 0 2000 && nin z.ty.length 1 64 && nin (poolN [] (z.ty.map (·.2.2))) 1 256 && nin z.v 1 4
def oddR (x : Int) : Bool := decide (x < 0) || decide (x > 86400)
def endsOk (z : Zn) : Bool := z.ft.isEmpty || ((Ft.parse z.ft).2 && decide (z.v ≥ if (oddR (Ft.parse z.ft).1.fr.x || oddR (Ft.parse z.ft).1.to.x) = true then 3 else 2))
def trOk (n : Nat) : Option Int → List Rec → Bool
  | _, [] => true
  | b, c :: r => decide (0 ≤ c.2 ∧ c.2 < n) && (match b with | none => true | some a => decide (c.1 > a)) && trOk n (some c.1) r
def zoneRight (z : Zn) : Bool := countOk z && recRight z.lp && (!lastExp z.lp || decide (z.v ≥ 4)) && z.ty.all (fun t => decide (-89999 ≤ t.1 ∧ t.1 ≤ 93599)) && trOk z.ty.length none z.tr && endsOk z
def indexN (z : Zn) (at' : Int) : Nat := fl (fun c : Rec => decide (c.1 > at')) z.tr
def posixR (z : Zn) (at' : Int) : Int := w64 (at' - sumR z.lp at')
def Ft.look (f : Ft) (p : Int) : Ty := if f.sum p then (f.wo, f.wd, f.wa) else (f.so, f.sd, f.sa)
def lookZ (z : Zn) (at' : Int) : Ty :=
  if z.ft ≠ [] ∧ indexN z at' = z.tr.length then (Ft.parse z.ft).1.look (posixR z at')
  else match (z.tr.take (indexN z at')).getLast? with
    | none => z.ty.headD (0, false, [])
    | some c => z.ty.getD c.2.toNat (0, false, [])
end Go.Proofs.YtbnpclndiichcaaGreatDoor.Pl
end
section
set_option linter.unusedVariables false
set_option linter.unusedSimpArgs false
namespace Go.Proofs.YtbnpclndiichcaaGreatDoor.Pl
open Go Go.Proofs.YtbnpclndiichcaaGreatDoor.Eng
set_option linter.unusedVariables false
set_option linter.unusedSimpArgs false
def be : Nat → Int → List UInt8
  | 0, _ => []
  | k + 1, n => UInt8.ofNat ((n / (256 : Int) ^ k) % 256).toNat :: be k n
def ub : List UInt8 → Int
  | [] => 0
  | c :: r => (c.toNat : Int) * (256 : Int) ^ r.length + ub r
theorem be_len : ∀ (k : Nat) (n : Int), (be k n).length = k
  | 0, _ => rfl
  | k + 1, n => by rw [be, List.length_cons, be_len k n]
theorem pow_pos (k : Nat) : 0 < (256 : Int) ^ k := Int.pow_pos (by decide)
theorem ub_rng : ∀ l : List UInt8, 0 ≤ ub l ∧ ub l < (256 : Int) ^ l.length
  | [] => by simp [ub]
  | c :: r => by
    have ih := ub_rng r
    have hc : c.toNat < 256 := c.toNat_lt
    have hm := pow_pos r.length
    rw [ub, List.length_cons, Int.pow_succ]
    generalize (256 : Int) ^ r.length = m at *
    have h1 : 0 ≤ (c.toNat : Int) * m := Int.mul_nonneg (by omega) (by omega)
    have h2 : (c.toNat : Int) * m ≤ 255 * m := Int.mul_le_mul_of_nonneg_right (by omega) (by omega)
    refine ⟨by omega, ?_⟩
    have : m * 256 = 255 * m + m := by omega
    omega
theorem split_mod (x m : Int) (hm : 0 < m) : x % (m * 256) = (x / m % 256) * m + x % m := by
  have h1 := Int.emod_add_mul_ediv x m
  have h2 := Int.emod_add_mul_ediv (x / m) 256
  have h3 := Int.emod_nonneg x (show m ≠ 0 by omega)
  have h4 := Int.emod_lt_of_pos x hm
  have h5 := Int.emod_nonneg (x / m) (show (256 : Int) ≠ 0 by decide)
  have h6 := Int.emod_lt_of_pos (x / m) (show (0 : Int) < 256 by decide)
  generalize hq : x / m / 256 = q at *
  generalize hc : x / m % 256 = c at *
  generalize hu : x % m = u at *
  have e : x = (c * m + u) + (m * 256) * q := by
    rw [← h1, ← h2]
    rw [Int.mul_add, Int.mul_comm m c, ← Int.mul_assoc]
    omega
  have h7 : 0 ≤ c * m := Int.mul_nonneg h5 (by omega)
  have h8 : c * m ≤ 255 * m := Int.mul_le_mul_of_nonneg_right (by omega) (by omega)
  rw [e, Int.add_mul_emod_self_left]
  exact Int.emod_eq_of_lt (by omega) (by omega)
theorem ub_be : ∀ (k : Nat) (n : Int), ub (be k n) = n % (256 : Int) ^ k
  | 0, n => by simp [be, ub]
  | k + 1, n => by
    rw [be, ub, be_len, ub_be k n, Int.pow_succ, split_mod n _ (pow_pos k)]
    have h5 := Int.emod_nonneg (n / (256 : Int) ^ k) (show (256 : Int) ≠ 0 by decide)
    have h6 := Int.emod_lt_of_pos (n / (256 : Int) ^ k) (show (0 : Int) < 256 by decide)
    generalize n / (256 : Int) ^ k % 256 = c at *
    have : (UInt8.ofNat c.toNat).toNat = c.toNat := by
      rw [UInt8.toNat_ofNat']; exact Nat.mod_eq_of_lt (by omega)
    rw [this, Int.toNat_of_nonneg h5]
/-- Sizes 1, 4, 8: the first without a sign. -/
def fits (k : Nat) (n : Int) : Bool := if k = 1 then decide (0 ≤ n ∧ n < 256) else decide (-((256 : Int) ^ k / 2) ≤ n ∧ n < (256 : Int) ^ k / 2)
def numB (l : List UInt8) : Int := if l.length = 1 then ub l else if (256 : Int) ^ l.length ≤ 2 * ub l then ub l - (256 : Int) ^ l.length else ub l
theorem num_be {k : Nat} (hk : k = 1 ∨ k = 4 ∨ k = 8) {n : Int} (h : fits k n = true) : numB (be k n) = n := by
  unfold numB
  rw [be_len, ub_be]
  unfold fits at h
  rcases hk with rfl | rfl | rfl
  · rw [if_pos rfl] at h ⊢
    simp only [decide_eq_true_eq] at h
    rw [Int.emod_eq_of_lt (by omega) (by simp; omega)]
  · rw [if_neg (by decide)] at h ⊢
    simp only [decide_eq_true_eq, show ((256 : Int) ^ 4) = 4294967296 by decide] at h ⊢
    split <;> omega
  · rw [if_neg (by decide)] at h ⊢
    simp only [decide_eq_true_eq, show ((256 : Int) ^ 8) = 18446744073709551616 by decide] at h ⊢
    split <;> omega
theorem num_fits {l : List UInt8} (hk : l.length = 1 ∨ l.length = 4 ∨ l.length = 8) : fits l.length (numB l) = true := by
  have hu := ub_rng l
  unfold fits numB
  generalize ub l = u at *
  rcases hk with e | e | e
  · rw [e] at hu ⊢
    rw [if_pos rfl, if_pos rfl, decide_eq_true_eq]; simp at hu; omega
  · rw [e] at hu ⊢
    rw [if_neg (by decide), if_neg (by decide), decide_eq_true_eq]
    simp only [show ((256 : Int) ^ 4) = 4294967296 by decide] at hu ⊢
    split <;> omega
  · rw [e] at hu ⊢
    rw [if_neg (by decide), if_neg (by decide), decide_eq_true_eq]
    simp only [show ((256 : Int) ^ 8) = 18446744073709551616 by decide] at hu ⊢
    split <;> omega
end Go.Proofs.YtbnpclndiichcaaGreatDoor.Pl
end
section
set_option linter.unusedVariables false
set_option linter.unusedSimpArgs false
namespace Go.Proofs.YtbnpclndiichcaaGreatDoor.Pl
open Go Go.Proofs.YtbnpclndiichcaaGreatDoor.Eng
set_option linter.unusedVariables false
set_option linter.unusedSimpArgs false
abbrev W32 := BitVec 32
def rotl (x : W32) (k : Nat) : W32 := x <<< k ||| x >>> (32 - k)
/-- The words of a block: sixteen, then those that are mixed. -/
def sched : Nat → List W32 → List W32
  | 0, l => l
  | n + 1, l => sched n (l ++ [rotl (l.getD (l.length - 3) 0 ^^^ l.getD (l.length - 8) 0 ^^^ l.getD (l.length - 14) 0 ^^^ l.getD (l.length - 16) 0) 1])
def next (l : List W32) : List W32 := l ++ [rotl (l.getD (l.length - 3) 0 ^^^ l.getD (l.length - 8) 0 ^^^ l.getD (l.length - 14) 0 ^^^ l.getD (l.length - 16) 0) 1]
def word (b : List UInt8) (i : Nat) : W32 := b.foldl (fun w c => w <<< 8 ||| BitVec.ofNat 32 c.toNat) 0
def wordAt (b : List UInt8) (i : Nat) : W32 := word ((b.drop (4 * i)).take 4) 0
def first (b : List UInt8) (n : Nat) : List W32 := (List.range n).map (wordAt b)
structure St5 where
  a : W32
  b : W32
  c : W32
  d : W32
  e : W32
def s0 : St5 := ⟨1732584193#32, 4023233417#32, 2562383102#32, 271733878#32, 3285377520#32⟩
def St5.at (s : St5) (i : Nat) : W32 := match i with | 0 => s.a | 1 => s.b | 2 => s.c | 3 => s.d | _ => s.e
end Go.Proofs.YtbnpclndiichcaaGreatDoor.Pl
end
section
set_option linter.unusedVariables false
set_option linter.unusedSimpArgs false
namespace Go.Proofs.YtbnpclndiichcaaGreatDoor.Pl
open Go Go.Proofs.YtbnpclndiichcaaGreatDoor.Eng
set_option linter.unusedVariables false
set_option linter.unusedSimpArgs false
def blankB (c : UInt8) : Bool := c == 32 || c == 9
/-- Words. -/
def wd : List UInt8 → List UInt8 → List (List UInt8)
  | cur, [] => if cur = [] then [] else [cur]
  | cur, c :: r => if blankB c = true then (if cur = [] then wd [] r else cur :: wd [] r) else wd (cur ++ [c]) r
/-- A number of a text. -/
def numL (l : List UInt8) : Int × Bool := if l ≠ [] ∧ l.all isDig = true ∧ valL l ≤ 9223372036854775807 then ((valL l : Int), true) else (0, false)
def two (l : List UInt8) : Bool := (numL l).2 && decide (l.length ≤ 2)
/-- Leaps: the day, the step, whether of local time; and tables. -/
abbrev LR := Int × Int × Bool
structure Tb where
  ls : List LR
  has : Bool
  ex : Int
deriving DecidableEq
def endD (n : Int) : Bool := decide (-719162 ≤ n ∧ n ≤ 2932896) && (dayP n == dim (yearP n) (monP n))
def wrongL (k : Nat) (l : LR) (ahead : Int) : Int :=
  if 200 ≤ k then 8 else if l.1 < 730 ∨ 2932896 ≤ l.1 then 9 else if endD l.1 = false then 5 else if l.2.1 ≠ 1 ∧ l.2.1 ≠ -1 then 6 else if l.1 ≤ ahead then 4 else 0
/-- The first wrong leap, what is wrong of it, the last day ahead. -/
def checkG : Nat → Int → List LR → Nat × Int × Int
  | k, ahead, [] => (k, 0, ahead)
  | k, ahead, l :: r => if wrongL k l ahead ≠ 0 then (k, wrongL k l ahead, ahead) else checkG (k + 1) l.1 r
def expB (has : Bool) (ex ahead : Int) : Int :=
  if has = true then (if ex < (if 63072000 > (ahead + 1) * 86400 then 63072000 else (ahead + 1) * 86400) ∨ 253402300799 < ex then 9 else 0) else if ex ≠ 0 then 9 else 0
def checkT (t : Tb) : Nat × Int := if (checkG 0 729 t.ls).2.1 ≠ 0 then ((checkG 0 729 t.ls).1, (checkG 0 729 t.ls).2.1) else (t.ls.length, expB t.has t.ex (checkG 0 729 t.ls).2.2)
def rightT (t : Tb) : Bool := (checkT t).2 == 0
/-- A line: its kind, its date, its second, and what a leap has beside. -/
structure Row where
  kind : Int
  y : Int
  m : Int
  d : Int
  sec : Int
  sign : List UInt8
  roll : Bool
/-- What is read so far: the table (without an expiry), the line of the expiry, and what it says. -/
structure Src where
  ls : List LR
  at' : Int
  til : Int
/-- Bytes, one by one. -/
def B8 (l : List UInt8) : List V := l.map fun b => .c (.int .u8 b.toNat)
theorem B8_len (l : List UInt8) : (B8 l).length = l.length := by simp [B8]
theorem bytesV_S (l : List UInt8) : Eng.bytesV (S l) = B8 l := by simp [Eng.bytesV, B8]
theorem asB8 {l : List UInt8} {i : Nat} (h : i < l.length) {F : Prop} {K : Int → Prop} (hk : K (l[i].toNat : Int)) : Eng.asInt .u8 (getC (B8 l) i 0) F K := by
  have : getC (B8 l) i 0 = some (.c (.int .u8 (l[i].toNat : Int))) := by simp [getC, B8, V.cells, h]
  rw [this]; simpa [Eng.asInt] using hk
theorem B8_all (l : List UInt8) : Eng.allU8 (B8 l) = true := by
  simp [Eng.allU8, B8, Eng.isU8]
theorem B8_pack (l : List UInt8) : Eng.packB (B8 l) = S l := by
  have : (l.map fun b => V.c (.int .u8 (b.toNat : Int))).map Eng.byteOf = l := by
    rw [List.map_map]
    conv => rhs; rw [← List.map_id l]
    refine List.map_congr_left fun b _ => ?_
    simp [Eng.byteOf]
  unfold Eng.packB B8
  rw [this]
theorem dneg {p : Prop} [Decidable p] (h : ¬ p) : ¬ (decide p = true) := by simpa using h
end Go.Proofs.YtbnpclndiichcaaGreatDoor.Pl
end
section
set_option linter.unusedVariables false
set_option linter.unusedSimpArgs false
namespace Go.Proofs.YtbnpclndiichcaaGreatDoor.Pl
open Go Go.Proofs.YtbnpclndiichcaaGreatDoor.Eng
set_option linter.unusedVariables false
set_option linter.unusedSimpArgs false
theorem wu8_mod (n : Int) : wu8 n = n % 256 := by
  simp only [wu8, IntKind.wrap, IntKind.bits, IntKind.signed]
  simp
theorem wi32_in (n : Int) : (wi32 n = n) ↔ (-2147483648 ≤ n ∧ n ≤ 2147483647) := by
  simp only [wi32, IntKind.wrap, IntKind.bits, IntKind.signed]
  simp
  split <;> omega
theorem put_byte (n : Int) (k : Nat) (hk : k ≤ 7) : wu8 (Int.fdiv n ((2 : Int) ^ Min.min (Int.toNat (8 * (k : Int))) 64)) = ((UInt8.ofNat ((n / (256 : Int) ^ k) % 256).toNat).toNat : Int) := by
  have e1 : Min.min (Int.toNat (8 * (k : Int))) 64 = 8 * k := by omega
  have e2 : (2 : Int) ^ (8 * k) = (256 : Int) ^ k := by
    rw [Int.pow_mul]; rfl
  rw [e1, e2, wu8_mod, Int.fdiv_eq_ediv_of_nonneg _ (Int.le_of_lt (pow_pos k))]
  have h5 := Int.emod_nonneg (n / (256 : Int) ^ k) (show (256 : Int) ≠ 0 by decide)
  have h6 := Int.emod_lt_of_pos (n / (256 : Int) ^ k) (show (0 : Int) < 256 by decide)
  generalize n / (256 : Int) ^ k % 256 = c at *
  rw [UInt8.toNat_ofNat', Nat.mod_eq_of_lt (by omega), Int.toNat_of_nonneg h5]
end Go.Proofs.YtbnpclndiichcaaGreatDoor.Pl
end
section
set_option linter.unusedVariables false
set_option linter.unusedSimpArgs false
namespace Go.Proofs.YtbnpclndiichcaaGreatDoor.Pl
open Go Go.Proofs.YtbnpclndiichcaaGreatDoor.Eng
set_option linter.unusedVariables false
set_option linter.unusedSimpArgs false
/-- Names, each once, with an end behind each; where each name stands. -/
def poolG : List UInt8 → List (List UInt8 × Nat) → List (List UInt8) → List UInt8 × List Nat
  | p, _, [] => (p, [])
  | p, had, s :: r => match had.find? (fun x => x.1 == s) with
    | some x => ((poolG p had r).1, x.2 :: (poolG p had r).2)
    | none => ((poolG (p ++ (s ++ [0])) (had ++ [(s, p.length)]) r).1, p.length :: (poolG (p ++ (s ++ [0])) (had ++ [(s, p.length)]) r).2)
def poolL (l : List (List UInt8)) : List UInt8 × List Nat := poolG [] [] l
/-- The name that stands at a place. -/
def nameAt (p : List UInt8) (n : Nat) : List UInt8 := (p.drop n).takeWhile (· != 0)
theorem poolG_pre : ∀ (l : List (List UInt8)) (p : List UInt8) (had : List (List UInt8 × Nat)), ∃ t, (poolG p had l).1 = p ++ t
  | [], p, had => ⟨[], by simp [poolG]⟩
  | s :: r, p, had => by
    rw [poolG]
    split
    · exact poolG_pre r p had
    · obtain ⟨t, ht⟩ := poolG_pre r (p ++ (s ++ [0])) (had ++ [(s, p.length)])
      exact ⟨(s ++ [0]) ++ t, by rw [ht]; simp⟩
theorem poolG_len : ∀ (l : List (List UInt8)) (p : List UInt8) (had : List (List UInt8 × Nat)), (poolG p had l).2.length = l.length
  | [], p, had => rfl
  | s :: r, p, had => by
    rw [poolG]
    split
    · simp [poolG_len r]
    · simp [poolG_len r]
theorem poolG_bd : ∀ (l : List (List UInt8)) (p : List UInt8) (had : List (List UInt8 × Nat)) (m : Nat), (∀ s ∈ l, s.length ≤ m) → (∀ x ∈ had, x.2 ≤ p.length) →
    (poolG p had l).1.length ≤ p.length + (m + 1) * l.length ∧ ∀ x ∈ (poolG p had l).2, x ≤ (poolG p had l).1.length
  | [], p, had, m, hs, hh => ⟨by simp [poolG], by simp [poolG]⟩
  | s :: r, p, had, m, hs, hh => by
    have hs' : ∀ t ∈ r, t.length ≤ m := fun t ht => hs t (.tail _ ht)
    have h1 := hs s (.head _)
    have hm : (m + 1) * (r.length + 1) = (m + 1) * r.length + (m + 1) := Nat.mul_succ _ _
    rw [List.length_cons, hm]
    cases hf : had.find? (fun x => x.1 == s) with
    | some x =>
      have e : poolG p had (s :: r) = ((poolG p had r).1, x.2 :: (poolG p had r).2) := by rw [poolG, hf]
      obtain ⟨a, b⟩ := poolG_bd r p had m hs' hh
      obtain ⟨t, ht⟩ := poolG_pre r p had
      rw [e]
      refine ⟨by show (poolG p had r).1.length ≤ _; omega, fun y hy => ?_⟩
      rcases List.mem_cons.1 hy with rfl | hy
      · have := hh x (List.mem_of_find?_eq_some hf)
        show x.2 ≤ (poolG p had r).1.length
        rw [ht, List.length_append]; omega
      · exact b y hy
    | none =>
      have e : poolG p had (s :: r) = ((poolG (p ++ (s ++ [0])) (had ++ [(s, p.length)]) r).1, p.length :: (poolG (p ++ (s ++ [0])) (had ++ [(s, p.length)]) r).2) := by rw [poolG, hf]
      obtain ⟨a, b⟩ := poolG_bd r (p ++ (s ++ [0])) (had ++ [(s, p.length)]) m hs' (fun x hx => by
        rcases List.mem_append.1 hx with hx | hx
        · have := hh x hx; rw [List.length_append]; omega
        · obtain rfl : x = (s, p.length) := by simpa using hx
          simp)
      obtain ⟨t, ht⟩ := poolG_pre r (p ++ (s ++ [0])) (had ++ [(s, p.length)])
      rw [e]
      simp only [List.length_append, List.length_singleton] at a
      refine ⟨by show (poolG (p ++ (s ++ [0])) (had ++ [(s, p.length)]) r).1.length ≤ _; omega, fun y hy => ?_⟩
      rcases List.mem_cons.1 hy with rfl | hy
      · show p.length ≤ (poolG (p ++ (s ++ [0])) (had ++ [(s, p.length)]) r).1.length
        rw [ht]; simp
      · exact b y hy
theorem takeWhile_zero (s t : List UInt8) (h : (0 : UInt8) ∉ s) : ((s ++ [0]) ++ t).takeWhile (· != 0) = s := by
  induction s with
  | nil => rfl
  | cons c r ih =>
    have hc : c ≠ 0 := fun e => h (by rw [e]; simp)
    rw [List.cons_append, List.cons_append, List.takeWhile_cons, if_pos (by simpa using hc), ih fun hm => h (.tail _ hm)]
theorem poolG_at : ∀ (l : List (List UInt8)) (p : List UInt8) (had : List (List UInt8 × Nat)), (∀ s ∈ l, (0 : UInt8) ∉ s) →
    (∀ x ∈ had, x.2 < p.length ∧ ∀ t, nameAt (p ++ t) x.2 = x.1) → ∀ i (h : i < l.length) (h' : i < (poolG p had l).2.length), nameAt (poolG p had l).1 ((poolG p had l).2[i]) = l[i] ∧ (poolG p had l).2[i] < (poolG p had l).1.length
  | [], p, had, hz, hh, i, h, h' => by simp at h
  | s :: r, p, had, hz, hh, i, h, h' => by
    have hz' : ∀ s ∈ r, (0 : UInt8) ∉ s := fun t ht => hz t (.tail _ ht)
    cases hf : had.find? (fun x => x.1 == s) with
    | some x =>
      have e : poolG p had (s :: r) = ((poolG p had r).1, x.2 :: (poolG p had r).2) := by rw [poolG, hf]
      simp only [e] at h' ⊢
      cases i with
      | zero =>
        obtain ⟨t, ht⟩ := poolG_pre r p had
        have hx := hh x (List.mem_of_find?_eq_some hf)
        have hs : x.1 = s := by simpa using List.find?_some hf
        rw [List.getElem_cons_zero, List.getElem_cons_zero, ht, hx.2, hs]
        exact ⟨rfl, by rw [List.length_append]; omega⟩
      | succ i =>
        simp only [List.getElem_cons_succ]
        exact poolG_at r p had hz' hh i (by simpa using h) (by simpa using h')
    | none =>
      have e : poolG p had (s :: r) = ((poolG (p ++ (s ++ [0])) (had ++ [(s, p.length)]) r).1, p.length :: (poolG (p ++ (s ++ [0])) (had ++ [(s, p.length)]) r).2) := by rw [poolG, hf]
      have hn : ∀ t, nameAt (p ++ (s ++ [0]) ++ t) p.length = s := fun t => by
        unfold nameAt
        rw [List.append_assoc, List.drop_left]
        exact takeWhile_zero s t (hz s (.head _))
      simp only [e] at h' ⊢
      cases i with
      | zero =>
        obtain ⟨t, ht⟩ := poolG_pre r (p ++ (s ++ [0])) (had ++ [(s, p.length)])
        rw [List.getElem_cons_zero, List.getElem_cons_zero, ht, hn]
        exact ⟨rfl, by simp; omega⟩
      | succ i =>
        simp only [List.getElem_cons_succ]
        refine poolG_at r _ _ hz' (fun x hx => ?_) i (by simpa using h) (by simpa using h')
        rcases List.mem_append.1 hx with hx | hx
        · obtain ⟨q1, q2⟩ := hh x hx
          exact ⟨by rw [List.length_append]; omega, fun t => by rw [List.append_assoc]; exact q2 _⟩
        · obtain rfl : x = (s, p.length) := by simpa using hx
          exact ⟨by simp, hn⟩
end Go.Proofs.YtbnpclndiichcaaGreatDoor.Pl
end
section
set_option linter.unusedVariables false
set_option linter.unusedSimpArgs false
namespace Go.Proofs.YtbnpclndiichcaaGreatDoor.Pl
open Go Go.Proofs.YtbnpclndiichcaaGreatDoor.Eng
set_option linter.unusedVariables false
set_option linter.unusedSimpArgs false
/-- A writer: what it holds, while all fits. -/
structure WI (bad : Bool) (l : List UInt8) (F : Bool) (b : List UInt8) (N : Nat) : Prop where
  bad : bad = !F
  eq : F = true → l = b
  len : l.length ≤ N
theorem WI.step {bad F : Bool} {l b : List UInt8} {N k : Nat} {n : Int} (h : WI bad l F b N) (hk : k = 1 ∨ k = 4 ∨ k = 8) : WI (bad || !fits k n) (l ++ if fits k n = true then be k n else []) (F && fits k n) (b ++ be k n) (N + 8) := by
  obtain ⟨h1, h2, h3⟩ := h
  refine ⟨by rw [h1]; cases F <;> cases fits k n <;> rfl, fun hF => ?_, ?_⟩
  · rw [Bool.and_eq_true] at hF
    rw [h2 hF.1, if_pos hF.2]
  · rw [List.length_append]
    split
    · rw [be_len]; omega
    · simp; omega
def tyW (l : List (Ty × Nat)) : List UInt8 := (l.map fun x => be 4 x.1.1 ++ be 1 (if x.1.2.1 = true then 1 else 0) ++ be 1 (x.2 : Int)).flatten
def tyF (l : List (Ty × Nat)) : Bool := l.all fun x => fits 4 x.1.1 && fits 1 (if x.1.2.1 = true then 1 else 0) && fits 1 (x.2 : Int)
def lpW (k : Nat) (l : List Rec) : List UInt8 := (l.map fun c => be k c.1 ++ be 4 c.2).flatten
def lpF (k : Nat) (l : List Rec) : Bool := l.all fun c => fits k c.1 && fits 4 c.2
def secW (k : Nat) (l : List Rec) : List UInt8 := (l.map fun c => be k c.1).flatten
def secF (k : Nat) (l : List Rec) : Bool := l.all fun c => fits k c.1
def kdW (l : List Rec) : List UInt8 := (l.map fun c => be 1 c.2).flatten
def kdF (l : List Rec) : Bool := l.all fun c => fits 1 c.2
def namesZ (z : Zn) : List (List UInt8) := z.ty.map (·.2.2)
/-- A zone's data; whether all fits. -/
def blockB (z : Zn) (k : Nat) : List UInt8 := secW k z.tr ++ kdW z.tr ++ tyW (z.ty.zip (poolL (namesZ z)).2) ++ (poolL (namesZ z)).1 ++ lpW k z.lp
def blockF (z : Zn) (k : Nat) : Bool := secF k z.tr && kdF z.tr && tyF (z.ty.zip (poolL (namesZ z)).2) && lpF k z.lp
def blockR (z : Zn) (k : Nat) : List UInt8 × Bool := if countOk z = true ∧ blockF z k = true then (blockB z k, true) else ([], false)
theorem take_map_flat {α : Type} (l : List α) (g : α → List UInt8) (j : Nat) (h : j < l.length) : ((l.take (j + 1)).map g).flatten = ((l.take j).map g).flatten ++ g l[j] := by
  rw [List.take_succ_eq_append_getElem h, List.map_append, List.flatten_append]; simp
theorem take_allS {α : Type} (l : List α) (g : α → Bool) (j : Nat) (h : j < l.length) : (l.take (j + 1)).all g = ((l.take j).all g && g l[j]) := by
  rw [List.take_succ_eq_append_getElem h, List.all_append]; simp
end Go.Proofs.YtbnpclndiichcaaGreatDoor.Pl
end
section
set_option linter.unusedVariables false
set_option linter.unusedSimpArgs false
namespace Go.Proofs.YtbnpclndiichcaaGreatDoor.Pl
open Go Go.Proofs.YtbnpclndiichcaaGreatDoor.Eng
set_option linter.unusedVariables false
set_option linter.unusedSimpArgs false
theorem ten_drop {l : List UInt8} (k : Nat) (h : (10 : UInt8) ∈ l) (hk : ∀ c ∈ l.take k, c ≠ 10) : (10 : UInt8) ∈ l.drop k := by
  rw [← List.take_append_drop k l] at h
  rcases List.mem_append.1 h with h | h
  · exact absurd rfl (hk _ h)
  · exact h
theorem dig_ten {c : UInt8} (h : isDig c = true) : c ≠ 10 := by
  rintro rfl; revert h; decide
theorem sixty_ten (l : List UInt8) (h : (10 : UInt8) ∈ l) : (10 : UInt8) ∈ (sixtyL l).2.1 := by
  unfold sixtyL
  split
  · rename_i c a b r
    split
    · rename_i q
      obtain ⟨q1, q2, q3, q4⟩ := q
      have e1 : c ≠ 10 := by rw [q1]; decide
      have e2 := dig_ten q2
      have e3 := dig_ten q3
      simp only [List.mem_cons] at h
      rcases h with h | h | h | h
      · exact absurd h.symm e1
      · exact absurd h.symm e2
      · exact absurd h.symm e3
      · exact h
    · exact h
  · exact h
theorem more_ten (p : Int × List UInt8 × Bool) (h : (10 : UInt8) ∈ p.2.1) : (10 : UInt8) ∈ (moreL p).2.1 := by
  unfold moreL
  split
  · exact sixty_ten _ h
  · exact h
theorem sign_ten (l : List UInt8) (h : (10 : UInt8) ∈ l) : (10 : UInt8) ∈ (signL l).2 := by
  cases l with
  | nil => exact h
  | cons c r =>
    show (10 : UInt8) ∈ (if c = 45 then ((-1 : Int), r) else if c = 43 then (1, r) else (1, c :: r)).2
    split
    · rename_i q
      rcases List.mem_cons.1 h with h | h
      · rw [q] at h; exact absurd h (by decide)
      · exact h
    · split
      · rename_i q
        rcases List.mem_cons.1 h with h | h
        · rw [q] at h; exact absurd h (by decide)
        · exact h
      · exact h
theorem time_ten (l : List UInt8) (h : (10 : UInt8) ∈ l) : (10 : UInt8) ∈ (timeL l).2.1 := by
  unfold timeL
  split
  · exact h
  · refine more_ten _ (sixty_ten _ (ten_drop _ (sign_ten l h) fun c hc => ?_))
    exact dig_ten (take_dl_dig _ _ (hour_bd _).2.1 c hc)
theorem cut_ten (c : UInt8) (hc : c ≠ 10) (l : List UInt8) (h : (10 : UInt8) ∈ l) : (10 : UInt8) ∈ (cutP c l).1 := by
  unfold cutP
  split
  · rename_i q
    cases l with
    | nil => simp at q
    | cons a r =>
      simp only [List.head?_cons, Option.some.injEq] at q
      rcases List.mem_cons.1 h with h | h
      · exact absurd (h.trans q).symm hc
      · exact h
  · exact h
theorem number_ten (l : List UInt8) (m : Nat) (h : (10 : UInt8) ∈ l) : (10 : UInt8) ∈ (numberL l m).2.1 := by
  unfold numberL
  split
  · exact h
  · exact ten_drop _ h fun c hc => dig_ten (take_dl_dig _ _ (Nat.le_refl _) c hc)
theorem tail_ten (c : UInt8) (hc : c ≠ 10) (l : List UInt8) (h : (10 : UInt8) ∈ l) (q : l.head? = some c) : (10 : UInt8) ∈ l.tail := by
  have := cut_ten c hc l h
  unfold cutP at this
  rwa [if_pos q] at this
theorem week_ten (l : List UInt8) (h : (10 : UInt8) ∈ l) : (10 : UInt8) ∈ (weekL l).2.2.2.1 := by
  unfold weekL
  exact number_ten _ _ (cut_ten 46 (by decide) _ (number_ten _ _ (cut_ten 46 (by decide) _ (number_ten _ _ h))))
theorem date_ten (l : List UInt8) (h : (10 : UInt8) ∈ l) : (10 : UInt8) ∈ (dateL l).2.2.2.2.1 := by
  unfold dateL
  split
  · rename_i q
    exact week_ten _ (tail_ten 77 (by decide) l h q)
  · split
    · rename_i q
      exact number_ten _ _ (tail_ten 74 (by decide) l h q)
    · exact number_ten _ _ h
theorem parseL_ten (l : List UInt8) (h : (10 : UInt8) ∈ l) : (10 : UInt8) ∈ (parseL l).2.2.2.2.2.1 := by
  have hd := date_ten l h
  unfold parseL
  by_cases h1 : (dateL l).2.2.2.2.2 = true
  · rw [if_pos h1]
    by_cases h2 : (dateL l).2.2.2.2.1.head? = some 47
    · rw [if_pos h2]
      split
      · exact time_ten _ (tail_ten 47 (by decide) _ hd h2)
      · exact h
    · rw [if_neg h2]
      split
      · exact hd
      · exact h
  · rw [if_neg h1]; exact h
theorem rule_ten (l : List UInt8) (h : (10 : UInt8) ∈ l) : (10 : UInt8) ∈ (ruleP l).rest := parseL_ten _ (cut_ten 44 (by decide) _ h)
theorem abbr_ten {l : List UInt8} (h : abbrL l = true) : (10 : UInt8) ∉ l := fun hm => by
  unfold abbrL at h
  simp only [Bool.and_eq_true, Bool.not_eq_true'] at h
  have := List.any_eq_false.1 h.2 10 hm
  revert this; decide
theorem abbr_zero {l : List UInt8} (h : abbrL l = true) : (0 : UInt8) ∉ l := fun hm => by
  unfold abbrL at h
  simp only [Bool.and_eq_true, Bool.not_eq_true'] at h
  have := List.any_eq_false.1 h.2 0 hm
  revert this; decide
theorem name_ten (l : List UInt8) (hk : (nameP l).2.1 = true) (h : (10 : UInt8) ∈ l) : (10 : UInt8) ∈ (nameP l).2.2 := by
  unfold nameP at hk ⊢
  split
  · rename_i q
    rw [if_pos q] at hk
    simp only [Bool.and_eq_true] at hk
    have ht := tail_ten 60 (by decide) l h q
    generalize l.tail = t at *
    obtain ⟨k1, k2⟩ := hk
    have k3 := abbr_ten k2
    unfold splitL at k1 k3 ⊢
    split
    · rename_i q2
      rw [if_pos q2] at k3
      refine ten_drop _ ht fun c hc e => ?_
      rw [List.take_succ_eq_append_getElem q2] at hc
      rcases List.mem_append.1 hc with hc | hc
      · rw [e] at hc; exact k3 hc
      · have := (nl_spec (· == 62) t _ q2).2 rfl
        simp only [List.mem_singleton] at hc
        rw [← hc, e] at this
        revert this; decide
    · rename_i q2
      rw [if_neg q2] at k1; cases k1
  · rename_i q
    rw [if_neg q] at hk
    exact ten_drop _ h fun c hc e => abbr_ten hk (e ▸ hc)
theorem foot_ten {l : List UInt8} (h : (Ft.parse l).2 = true) : (10 : UInt8) ∉ l := fun hm => by
  unfold Ft.parse at h
  by_cases h1 : (usualP l).ok = true
  · rw [if_pos h1] at h
    have k1 : (10 : UInt8) ∈ (usualP l).rest := by
      unfold usualP at h1 ⊢
      simp only [Bool.and_eq_true] at h1
      exact time_ten _ (name_ten l h1.1 hm)
    by_cases h2 : (usualP l).rest = []
    · rw [h2] at k1; simp at k1
    · rw [if_neg h2] at h
      by_cases h3 : (summerP (usualP l).o (usualP l).rest).ok = true
      · rw [if_pos h3] at h
        have k2 : (10 : UInt8) ∈ (summerP (usualP l).o (usualP l).rest).rest := by
          unfold summerP at h3 ⊢
          split
          · rename_i q
            rw [if_pos q] at h3
            exact time_ten _ (name_ten _ h3 k1)
          · rename_i q
            rw [if_neg q] at h3
            exact name_ten _ h3 k1
        by_cases h4 : (ruleP (summerP (usualP l).o (usualP l).rest).rest).ok = true
        · rw [if_pos h4] at h
          by_cases h5 : (ruleP (ruleP (summerP (usualP l).o (usualP l).rest).rest).rest).ok = true
          · rw [if_pos h5] at h
            have k3 := rule_ten _ (rule_ten _ k2)
            split at h
            · rename_i q; rw [q] at k3; simp at k3
            · cases h
          · rw [if_neg h5] at h; cases h
        · rw [if_neg h4] at h; cases h
      · rw [if_neg h3] at h; cases h
  · rw [if_neg h1] at h; cases h
end Go.Proofs.YtbnpclndiichcaaGreatDoor.Pl
end
section
set_option linter.unusedVariables false
set_option linter.unusedSimpArgs false
namespace Go.Proofs.YtbnpclndiichcaaGreatDoor.Pl
open Go Go.Proofs.YtbnpclndiichcaaGreatDoor.Eng
set_option linter.unusedVariables false
set_option linter.unusedSimpArgs false
def dd (n : Int) : List UInt8 := [UInt8.ofNat (48 + (n / 10 % 10).toNat), UInt8.ofNat (48 + (n % 10).toNat)]
def hms (x : Int) : List UInt8 := dd (x / 3600) ++ 58 :: (dd (x / 60 % 60) ++ 58 :: dd (x % 60))
end Go.Proofs.YtbnpclndiichcaaGreatDoor.Pl
end
section
set_option linter.unusedVariables false
set_option linter.unusedSimpArgs false
namespace Go.Proofs.YtbnpclndiichcaaGreatDoor.Pl
open Go Go.Proofs.YtbnpclndiichcaaGreatDoor.Eng
set_option linter.unusedVariables false
set_option linter.unusedSimpArgs false
def midL (l : LR) : Int := (l.1 + 1) * 86400
/-- When a leap is, without those ahead of it. -/
def instR (z : Zn) (l : LR) : Int := if l.2.2 = true then midL l - (lookZ z (midL l - 1)).1 else midL l
def recG (z : Zn) : Int → List LR → List Rec
  | _, [] => []
  | s, l :: r => (instR z l + s + min l.2.1 0, s + l.2.1) :: recG z (s + l.2.1) r
def stepsL (ls : List LR) : Int := (ls.map (·.2.1)).sum
def recAll (z : Zn) (t : Tb) : List Rec := recG z 0 t.ls ++ (if t.has = true then [(t.ex + stepsL t.ls, stepsL t.ls)] else [])
/-- What is wrong of records. -/
def recErr : Nat → Rec → List Rec → Int
  | _, _, [] => 0
  | k, b, c :: r =>
    if 200 < k then 8 else if c.1 < 0 then 9 else if (decide (c.2 - b.2 = 0) && r.isEmpty) = false ∧ c.2 - b.2 ≠ 1 ∧ c.2 - b.2 ≠ -1 then 6
    else if 0 < k ∧ c.1 - b.1 < (if (decide (c.2 - b.2 = 0) && r.isEmpty) = true then 0 else 2419199) then 7 else recErr (k + 1) c r
def recE (l : List Rec) : Int := recErr 0 (-2419199, 0) l
def inI (n : Int) : Prop := -9223372036854775808 ≤ n ∧ n ≤ 9223372036854775807
instance (n : Int) : Decidable (inI n) := by unfold inI; infer_instance
def shiftS (z : Zn) (ls : List LR) (p : Int) : Int := ((ls.filter fun l => decide (instR z l ≤ p)).map (·.2.1)).sum
def shiftR (z : Zn) (ls : List LR) (p : Int) : Int × Bool := if inI (p + shiftS z ls p) then (p + shiftS z ls p, true) else (0, false)
def zn0 : Zn := ⟨[], [], [], [], 0⟩
def rising : List Rec → Bool
  | [] => true
  | [_] => true
  | a :: b :: r => decide (a.1 < b.1) && rising (b :: r)
end Go.Proofs.YtbnpclndiichcaaGreatDoor.Pl
end
section
set_option linter.unusedVariables false
set_option linter.unusedSimpArgs false
namespace Go.Proofs.YtbnpclndiichcaaGreatDoor.Pl
open Go Go.Proofs.YtbnpclndiichcaaGreatDoor.Eng
set_option linter.unusedVariables false
set_option linter.unusedSimpArgs false
structure CompOk (z : Zn) (t : Tb) (y : Zn) : Prop where
  lp : z.lp = []
  zr : zoneRight z = true
  tr : rightT t = true
  ro : recE (recAll z t) = 0
  al : z.tr.all (fun c => (shiftR z t.ls c.1).2) = true
  ri : rising (z.tr.map fun c => ((shiftR z t.ls c.1).1, c.2)) = true
  eq : y = ⟨z.ty, z.tr.map fun c => ((shiftR z t.ls c.1).1, c.2), recAll z t, z.ft, if t.has = true then 4 else z.v⟩
end Go.Proofs.YtbnpclndiichcaaGreatDoor.Pl
end
section
set_option linter.unusedVariables false
set_option linter.unusedSimpArgs false
namespace Go.Proofs.YtbnpclndiichcaaGreatDoor.Pl
open Go Go.Proofs.YtbnpclndiichcaaGreatDoor.Eng
set_option linter.unusedVariables false
set_option linter.unusedSimpArgs false
def secD (k : Nat) : Nat → List UInt8 → List Int
  | 0, _ => []
  | n + 1, b => numB (b.take k) :: secD k n (b.drop k)
def tyD : Nat → List UInt8 → List (Int × Int × Int)
  | 0, _ => []
  | n + 1, b => (numB (b.take 4), numB ((b.drop 4).take 1), numB ((b.drop 5).take 1)) :: tyD n (b.drop 6)
def lpD (k : Nat) : Nat → List UInt8 → List Rec
  | 0, _ => []
  | n + 1, b => (numB (b.take k), numB ((b.drop k).take 4)) :: lpD k n (b.drop (k + 4))
/-- The name at a place, and whether there is one. -/
def abbrAt (p : List UInt8) (a : Int) : List UInt8 × Bool :=
  if 0 ≤ a ∧ a < p.length ∧ (0 : UInt8) ∈ p.drop a.toNat ∧ abbrL (nameAt p a.toNat) = true then (nameAt p a.toNat, true) else ([], false)
structure Hd where
  v : Int
  ut : Int
  sd : Int
  lp : Int
  tr : Int
  ty : Int
  ch : Int
def hd0 : Hd := ⟨0, 0, 0, 0, 0, 0, 0⟩
def tupHd (h : Hd) : Int × Int × Int × Int × Int × Int × Int × Unit := (h.v, h.ut, h.sd, h.lp, h.tr, h.ty, h.ch, ())
def headOk (h : Hd) : Bool := nin h.lp 0 201 && nin h.tr 0 2000 && nin h.ty 1 64 && nin h.ch 1 256 && nin h.v 1 4 && (h.ut == 0 || h.ut == h.ty) && (h.sd == 0 || h.sd == h.ty)
def sizeR (h : Hd) (k : Nat) : Int := if headOk h = true ∧ (k = 4 ∨ k = 8) then h.tr * (k + 1) + h.ty * 6 + h.ch + h.lp * (k + 4) + h.sd + h.ut else 0
def markOk (sd ut : List UInt8) : Bool := sd.all (fun c => decide (c.toNat ≤ 1)) && ut.all (fun c => decide (c.toNat ≤ 1)) && (List.range ut.length).all fun i => !(ut.getD i 0 == 1) || sd.getD i 0 == 1
/-- Where the parts of a zone's data begin. -/
def oTy (h : Hd) (k : Nat) : Nat := (k + 1) * h.tr.toNat
def oCh (h : Hd) (k : Nat) : Nat := oTy h k + 6 * h.ty.toNat
def oLp (h : Hd) (k : Nat) : Nat := oCh h k + h.ch.toNat
def oSd (h : Hd) (k : Nat) : Nat := oLp h k + (k + 4) * h.lp.toNat
def oUt (h : Hd) (k : Nat) : Nat := oSd h k + h.sd.toNat
def tysD (h : Hd) (b : List UInt8) (k : Nat) : List (Int × Int × Int) := tyD h.ty.toNat (b.drop (oTy h k))
def chD (h : Hd) (b : List UInt8) (k : Nat) : List UInt8 := (b.drop (oCh h k)).take h.ch.toNat
def blockZ (h : Hd) (b : List UInt8) (k : Nat) : Zn :=
  ⟨(tysD h b k).map fun x => (x.1, x.2.1 == 1, (abbrAt (chD h b k) x.2.2).1), (secD k h.tr.toNat b).zip (secD 1 h.tr.toNat (b.drop (k * h.tr.toNat))), lpD k h.lp.toNat (b.drop (oLp h k)), [], h.v⟩
def blockK (h : Hd) (b : List UInt8) (k : Nat) : Bool :=
  (tysD h b k).all (fun x => decide (x.2.1 < 2)) && (tysD h b k).all (fun x => (abbrAt (chD h b k) x.2.2).2) && markOk ((b.drop (oSd h k)).take h.sd.toNat) ((b.drop (oUt h k)).take h.ut.toNat)
def blockD (h : Hd) (b : List UInt8) (k : Nat) : Zn × Bool :=
  if sizeR h k ≠ 0 ∧ (b.length : Int) = sizeR h k ∧ blockK h b k = true then (blockZ h b k, true) else (zn0, false)
def versR (c : Int) : Int := if c = 0 then 1 else if 50 ≤ c ∧ c ≤ 52 then c - 48 else 0
def headG (b : List UInt8) : Hd :=
  ⟨versR (numB ((b.drop 4).take 1)), numB ((b.drop 20).take 4), numB ((b.drop 24).take 4), numB ((b.drop 28).take 4), numB ((b.drop 32).take 4), numB ((b.drop 36).take 4), numB ((b.drop 40).take 4)⟩
def magicL : List UInt8 := [84, 90, 105, 102]
def headD (b : List UInt8) : Hd × Bool :=
  if 44 ≤ b.length ∧ b.take 4 = magicL ∧ ((b.drop 5).take 15).all (· == 0) = true ∧ headOk (headG b) = true then (headG b, true) else (hd0, false)
def headE (h : Hd) : List UInt8 :=
  magicL ++ ((if 1 < h.v then [UInt8.ofNat (48 + h.v).toNat] else [0]) ++ (List.replicate 15 0 ++ (be 4 h.ut ++ (be 4 h.sd ++ (be 4 h.lp ++ (be 4 h.tr ++ (be 4 h.ty ++ be 4 h.ch)))))))
def hdZ (z : Zn) : Hd := ⟨z.v, 0, 0, z.lp.length, z.tr.length, z.ty.length, (poolL (namesZ z)).1.length⟩
def szZ (z : Zn) : Nat := if z.v = 1 then 4 else 8
def partR (z : Zn) (k : Nat) : List UInt8 := headE (hdZ z) ++ blockB z k
def encR (z : Zn) : List UInt8 × Bool :=
  if (blockR z (szZ z)).2 = true ∧ zoneRight z = true then
    (if z.v = 1 then partR z 4 else headE ⟨z.v, 0, 0, 0, 0, 1, 1⟩ ++ (List.replicate 7 0 ++ (partR z 8 ++ (10 :: (z.ft ++ [10])))), true)
  else ([], false)
def hSz (h : Hd) (k : Nat) : Nat := if h.v = 1 then 4 else k
def cutOk (b : List UInt8) (k : Nat) : Bool := (headD b).2 && decide (sizeR (headD b).1 (hSz (headD b).1 k) ≤ (b.length : Int) - 44)
def cutA (b : List UInt8) (k : Nat) : List UInt8 := (b.drop 44).take (sizeR (headD b).1 (hSz (headD b).1 k)).toNat
def cutB (b : List UInt8) (k : Nat) : List UInt8 := (b.drop 44).drop (sizeR (headD b).1 (hSz (headD b).1 k)).toNat
def footOk (b : List UInt8) : Bool := decide (2 ≤ b.length) && b.head? == some 10 && b.getLast? == some 10 && !(b.tail.dropLast).any (· == 10)
def readD (b : List UInt8) : Zn × Bool :=
  if cutOk b 4 = true then
    (if (headD b).1.v = 1 then
      (if (blockD (headD b).1 (cutA b 4) 4).2 = true ∧ cutB b 4 = [] then ((blockD (headD b).1 (cutA b 4) 4).1, true) else (zn0, false))
    else if cutOk (cutB b 4) 8 = true ∧ (headD (cutB b 4)).1.v = (headD b).1.v ∧ (blockD (headD (cutB b 4)).1 (cutA (cutB b 4) 8) 8).2 = true ∧ footOk (cutB (cutB b 4) 8) = true then
      ({ (blockD (headD (cutB b 4)).1 (cutA (cutB b 4) 8) 8).1 with ft := (cutB (cutB b 4) 8).tail.dropLast }, true) else (zn0, false))
  else (zn0, false)
def decR (b : List UInt8) : Zn × Int :=
  if (readD b).2 = true then (if zoneRight (readD b).1 = true then ((readD b).1, 0) else (zn0, 9)) else (zn0, 2)
end Go.Proofs.YtbnpclndiichcaaGreatDoor.Pl
end
section
set_option linter.unusedVariables false
set_option linter.unusedSimpArgs false
namespace Go.Proofs.YtbnpclndiichcaaGreatDoor.Pl
open Go Go.Proofs.YtbnpclndiichcaaGreatDoor.Eng
set_option linter.unusedVariables false
set_option linter.unusedSimpArgs false
theorem be_take (k : Nat) (n : Int) (t : List UInt8) : (be k n ++ t).take k = be k n := by
  rw [List.take_append_of_le_length (by rw [be_len]; omega), List.take_of_length_le (by rw [be_len]; omega)]
theorem be_drop (k : Nat) (n : Int) (t : List UInt8) : (be k n ++ t).drop k = t := by
  rw [List.drop_append_of_le_length (by rw [be_len]; omega), List.drop_of_length_le (by rw [be_len]; omega), List.nil_append]
theorem sec_len (k : Nat) (l : List Rec) : (secW k l).length = k * l.length := by
  induction l with
  | nil => simp [secW]
  | cons c r ih =>
    unfold secW at ih ⊢
    rw [List.map_cons, List.flatten_cons, List.length_append, be_len, ih, List.length_cons, Nat.mul_succ]; omega
theorem kd_len (l : List Rec) : (kdW l).length = l.length := by
  induction l with
  | nil => simp [kdW]
  | cons c r ih =>
    unfold kdW at ih ⊢
    rw [List.map_cons, List.flatten_cons, List.length_append, be_len, ih, List.length_cons]; omega
theorem ty_len (l : List (Ty × Nat)) : (tyW l).length = 6 * l.length := by
  induction l with
  | nil => simp [tyW]
  | cons c r ih =>
    unfold tyW at ih ⊢
    rw [List.map_cons, List.flatten_cons, List.length_append, List.length_append, List.length_append, be_len, be_len, be_len, ih, List.length_cons, Nat.mul_succ]; omega
theorem lp_len (k : Nat) (l : List Rec) : (lpW k l).length = (k + 4) * l.length := by
  induction l with
  | nil => simp [lpW]
  | cons c r ih =>
    unfold lpW at ih ⊢
    rw [List.map_cons, List.flatten_cons, List.length_append, List.length_append, be_len, be_len, ih, List.length_cons, Nat.mul_succ]; omega
theorem sec_back {k : Nat} (hk : k = 1 ∨ k = 4 ∨ k = 8) : ∀ (l : List Rec) (t : List UInt8), secF k l = true → secD k l.length (secW k l ++ t) = l.map (·.1)
  | [], t, h => rfl
  | c :: r, t, h => by
    simp only [secF, List.all_cons, Bool.and_eq_true] at h
    have e : secW k (c :: r) ++ t = be k c.1 ++ (secW k r ++ t) := by simp [secW]
    rw [e, List.length_cons, secD, be_take, be_drop, num_be hk h.1, sec_back hk r t h.2, List.map_cons]
theorem kd_back : ∀ (l : List Rec) (t : List UInt8), kdF l = true → secD 1 l.length (kdW l ++ t) = l.map (·.2)
  | [], t, h => rfl
  | c :: r, t, h => by
    simp only [kdF, List.all_cons, Bool.and_eq_true] at h
    have e : kdW (c :: r) ++ t = be 1 c.2 ++ (kdW r ++ t) := by simp [kdW]
    rw [e, List.length_cons, secD, be_take, be_drop, num_be (.inl rfl) h.1, kd_back r t h.2, List.map_cons]
theorem ty_back : ∀ (l : List (Ty × Nat)) (t : List UInt8), tyF l = true → tyD l.length (tyW l ++ t) = l.map fun x => (x.1.1, (if x.1.2.1 = true then 1 else 0), (x.2 : Int))
  | [], t, h => rfl
  | c :: r, t, h => by
    simp only [tyF, List.all_cons, Bool.and_eq_true] at h
    have e : tyW (c :: r) ++ t = be 4 c.1.1 ++ (be 1 (if c.1.2.1 = true then 1 else 0) ++ (be 1 (c.2 : Int) ++ (tyW r ++ t))) := by simp [tyW]
    have e5 : (be 4 c.1.1 ++ (be 1 (if c.1.2.1 = true then 1 else 0) ++ (be 1 (c.2 : Int) ++ (tyW r ++ t)))).drop 5 = be 1 (c.2 : Int) ++ (tyW r ++ t) := by
      rw [show (5 : Nat) = 4 + 1 from rfl, ← List.drop_drop, be_drop, be_drop]
    have e6 : (be 4 c.1.1 ++ (be 1 (if c.1.2.1 = true then 1 else 0) ++ (be 1 (c.2 : Int) ++ (tyW r ++ t)))).drop 6 = tyW r ++ t := by
      rw [show (6 : Nat) = 5 + 1 from rfl, ← List.drop_drop, e5, be_drop]
    rw [e, List.length_cons, tyD, e5, e6, be_take, be_drop, be_take, be_take, num_be (.inr (.inl rfl)) h.1.1.1, num_be (.inl rfl) h.1.1.2, num_be (.inl rfl) h.1.2, ty_back r t h.2, List.map_cons]
theorem lp_back {k : Nat} (hk : k = 1 ∨ k = 4 ∨ k = 8) : ∀ (l : List Rec) (t : List UInt8), lpF k l = true → lpD k l.length (lpW k l ++ t) = l
  | [], t, h => rfl
  | c :: r, t, h => by
    simp only [lpF, List.all_cons, Bool.and_eq_true] at h
    have e : lpW k (c :: r) ++ t = be k c.1 ++ (be 4 c.2 ++ (lpW k r ++ t)) := by simp [lpW]
    rw [e, List.length_cons, lpD, ← List.drop_drop, be_take, be_drop, be_take, be_drop, num_be hk h.1.1, num_be (.inr (.inl rfl)) h.1.2, lp_back hk r t h.2]
theorem poolN_cong' : ∀ (l a b : List (List UInt8)), (∀ s, a.contains s = b.contains s) → poolN a l = poolN b l
  | [], a, b, h => rfl
  | s :: r, a, b, h => by
    rw [poolN, poolN, h s]
    split
    · exact poolN_cong' r a b h
    · rw [poolN_cong' r (s :: a) (s :: b) fun t => by simp only [List.contains_cons, h t]]
theorem poolG_size : ∀ (l : List (List UInt8)) (p : List UInt8) (had : List (List UInt8 × Nat)), (poolG p had l).1.length = p.length + poolN (had.map (·.1)) l
  | [], p, had => by simp [poolG, poolN]
  | s :: r, p, had => by
    have hc : (had.map (·.1)).contains s = (had.find? (fun x => x.1 == s)).isSome := by
      induction had with
      | nil => rfl
      | cons x t ih =>
        rw [List.map_cons, List.contains_cons, ih, List.find?_cons]
        cases hx : x.1 == s
        · have : (s == x.1) = false := by rw [Bool.eq_false_iff] at hx ⊢; exact fun q => hx (by simpa using (eq_of_beq q).symm)
          rw [this]; rfl
        · have : (s == x.1) = true := by simpa using (eq_of_beq hx).symm
          rw [this]; rfl
    rw [poolG, poolN, hc]
    cases hf : had.find? (fun x => x.1 == s) with
    | some x => simp only [Option.isSome_some, if_true]; exact poolG_size r p had
    | none =>
      simp only [Option.isSome_none, Bool.false_eq_true, if_false]
      rw [poolG_size r, List.length_append, List.length_append, List.length_singleton, poolN_cong' r _ (s :: had.map (·.1)) fun t => by
          rw [Bool.eq_iff_iff, List.contains_iff_mem, List.contains_iff_mem, List.map_append, List.mem_append, List.mem_cons]
          simp only [List.map_cons, List.map_nil, List.mem_singleton]
          exact ⟨fun h => h.symm, fun h => h.symm⟩]
      omega
theorem poolL_size (l : List (List UInt8)) : (poolL l).1.length = poolN [] l := by
  unfold poolL; rw [poolG_size]; simp
theorem poolG_last : ∀ (l : List (List UInt8)) (p : List UInt8) (had : List (List UInt8 × Nat)), (p = [] ∨ p.getLast? = some 0) → ((poolG p had l).1 = [] ∨ (poolG p had l).1.getLast? = some 0)
  | [], p, had, h => h
  | s :: r, p, had, h => by
    rw [poolG]
    split
    · exact poolG_last r p had h
    · refine poolG_last r _ _ (.inr ?_)
      rw [← List.append_assoc, List.getLast?_concat]
theorem zero_in {p : List UInt8} (h : p = [] ∨ p.getLast? = some 0) {a : Nat} (ha : a < p.length) : (0 : UInt8) ∈ p.drop a := by
  rcases h with h | h
  · rw [h] at ha; simp at ha
  · have : (p.drop a).getLast? = some 0 := by rw [List.getLast?_drop, if_neg (by omega), h]
    exact List.mem_of_getLast? this
theorem abbr_at {l : List (List UInt8)} (hl : l.all abbrL = true) {i : Nat} (h : i < l.length) (h' : i < (poolL l).2.length) : abbrAt (poolL l).1 (((poolL l).2[i] : Nat) : Int) = (l[i], true) := by
  have hz : ∀ s ∈ l, (0 : UInt8) ∉ s := fun s hs => abbr_zero (List.all_eq_true.1 hl s hs)
  obtain ⟨a, b⟩ := poolG_at l [] [] hz (by simp) i h h'
  have e0 := zero_in (poolG_last l [] [] (.inl rfl)) b
  unfold poolL at h' ⊢
  unfold abbrAt
  rw [Int.toNat_natCast, a]
  rw [if_pos ⟨by omega, by omega, e0, List.all_eq_true.1 hl _ (List.getElem_mem h)⟩]
structure CountOk (z : Zn) : Prop where
  ab : (namesZ z).all abbrL = true
  ch : 1 ≤ (poolL (namesZ z)).1.length ∧ (poolL (namesZ z)).1.length ≤ 256
  lp : z.lp.length ≤ 201
  tr : z.tr.length ≤ 2000
  ty : 1 ≤ z.ty.length ∧ z.ty.length ≤ 64
  v : 1 ≤ z.v ∧ z.v ≤ 4
theorem count_ok {z : Zn} (h : countOk z = true) : CountOk z := by
  unfold countOk nin at h
  simp only [Bool.and_eq_true, decide_eq_true_eq] at h
  have e := poolL_size (namesZ z)
  unfold namesZ at e
  exact ⟨h.1.1.1.1.1.1, by unfold namesZ; omega, by omega, by omega, by omega, h.2⟩
theorem head_hdZ {z : Zn} (h : countOk z = true) : headOk (hdZ z) = true := by
  have := count_ok h
  obtain ⟨h1, h2, h3, h4, h5, h6⟩ := this
  unfold headOk hdZ nin
  simp only [Bool.and_eq_true, decide_eq_true_eq]
  exact ⟨⟨⟨⟨⟨⟨by omega, by omega⟩, by omega⟩, by omega⟩, h6⟩, rfl⟩, rfl⟩
theorem block_len {z : Zn} {k : Nat} : (blockB z k).length = (k + 1) * z.tr.length + 6 * z.ty.length + (poolL (namesZ z)).1.length + (k + 4) * z.lp.length := by
  have hz1 : (z.ty.zip (poolL (namesZ z)).2).length = z.ty.length := by
    rw [List.length_zip]; unfold poolL; rw [poolG_len]; simp [namesZ]
  unfold blockB
  simp only [List.length_append]
  rw [sec_len, kd_len, ty_len, lp_len, hz1, Nat.add_mul k 1]; omega
theorem size_hdZ {z : Zn} (h : countOk z = true) {k : Nat} (hk : k = 4 ∨ k = 8) : sizeR (hdZ z) k = ((blockB z k).length : Int) := by
  unfold sizeR
  rw [if_pos ⟨head_hdZ h, hk⟩, block_len]
  unfold hdZ
  simp only [Int.natCast_add, Int.natCast_mul]
  rw [Int.mul_comm (z.tr.length : Int), Int.mul_comm (z.ty.length : Int), Int.mul_comm (z.lp.length : Int)]
  simp
theorem drop_pre {α : Type} (a b : List α) (n : Nat) (h : a.length = n) : (a ++ b).drop n = b := List.drop_left' h
theorem take_pre {α : Type} (a b : List α) (n : Nat) (h : a.length = n) : (a ++ b).take n = a := List.take_left' h
theorem zip_map_pair (l : List Rec) : (l.map (·.1)).zip (l.map (·.2)) = l := by
  induction l with
  | nil => rfl
  | cons c r ih => simp [ih]
theorem block_back {z : Zn} {k : Nat} (hk : k = 4 ∨ k = 8) (hc : countOk z = true) (hf : blockF z k = true) : blockD (hdZ z) (blockB z k) k = ({ z with ft := [] }, true) := by
  have co := count_ok hc
  have hk3 : k = 1 ∨ k = 4 ∨ k = 8 := .inr hk
  have plen : (poolL (namesZ z)).2.length = z.ty.length := by unfold poolL; rw [poolG_len]; simp [namesZ]
  have nlen : (namesZ z).length = z.ty.length := by simp [namesZ]
  have hz1 : (z.ty.zip (poolL (namesZ z)).2).length = z.ty.length := by rw [List.length_zip, plen]; omega
  unfold blockF at hf
  simp only [Bool.and_eq_true] at hf
  obtain ⟨⟨⟨f1, f2⟩, f3⟩, f4⟩ := hf
  have eT : (hdZ z).tr.toNat = z.tr.length := by simp [hdZ]
  have eY : (hdZ z).ty.toNat = z.ty.length := by simp [hdZ]
  have eC : (hdZ z).ch.toNat = (poolL (namesZ z)).1.length := by simp [hdZ]
  have eL : (hdZ z).lp.toNat = z.lp.length := by simp [hdZ]
  have b0 : blockB z k = secW k z.tr ++ (kdW z.tr ++ (tyW (z.ty.zip (poolL (namesZ z)).2) ++ ((poolL (namesZ z)).1 ++ lpW k z.lp))) := by simp [blockB]
  have b1 : (blockB z k).drop (k * z.tr.length) = kdW z.tr ++ (tyW (z.ty.zip (poolL (namesZ z)).2) ++ ((poolL (namesZ z)).1 ++ lpW k z.lp)) := by
    rw [b0]; exact drop_pre _ _ _ (sec_len k _)
  have b2 : (blockB z k).drop (oTy (hdZ z) k) = tyW (z.ty.zip (poolL (namesZ z)).2) ++ ((poolL (namesZ z)).1 ++ lpW k z.lp) := by
    unfold oTy
    rw [eT, Nat.add_mul, Nat.one_mul, ← List.drop_drop, b1]; exact drop_pre _ _ _ (kd_len _)
  have b3 : (blockB z k).drop (oCh (hdZ z) k) = (poolL (namesZ z)).1 ++ lpW k z.lp := by
    unfold oCh
    rw [eY, ← List.drop_drop, b2]; exact drop_pre _ _ _ (by rw [ty_len, hz1])
  have b4 : (blockB z k).drop (oLp (hdZ z) k) = lpW k z.lp := by
    unfold oLp
    rw [eC, ← List.drop_drop, b3]; exact drop_pre _ _ _ rfl
  have ty : tysD (hdZ z) (blockB z k) k = (z.ty.zip (poolL (namesZ z)).2).map fun x => (x.1.1, (if x.1.2.1 = true then 1 else 0), (x.2 : Int)) := by
    unfold tysD
    rw [b2, eY]
    have := ty_back _ ((poolL (namesZ z)).1 ++ lpW k z.lp) f3
    rwa [hz1] at this
  have ch : chD (hdZ z) (blockB z k) k = (poolL (namesZ z)).1 := by
    unfold chD; rw [b3, eC]; exact take_pre _ _ _ rfl
  have at' : ∀ x ∈ z.ty.zip (poolL (namesZ z)).2, abbrAt (poolL (namesZ z)).1 (x.2 : Int) = (x.1.2.2, true) := fun x hx => by
    obtain ⟨i, hi, rfl⟩ := List.getElem_of_mem hx
    rw [hz1] at hi
    have e : (z.ty.zip (poolL (namesZ z)).2)[i]'(by rw [hz1]; exact hi) = (z.ty[i], (poolL (namesZ z)).2[i]'(by rw [plen]; exact hi)) := List.getElem_zip
    rw [e]
    have := abbr_at co.ab (i := i) (by rw [nlen]; exact hi) (by rw [plen]; exact hi)
    rw [this]
    simp [namesZ]
  have eZ : blockZ (hdZ z) (blockB z k) k = { z with ft := [] } := by
    have e9 := lp_back hk3 z.lp [] f4
    rw [List.append_nil] at e9
    unfold blockZ
    rw [ty, ch, eT, eL, b4, b1, b0, sec_back hk3 _ _ f1, kd_back _ _ f2, e9, zip_map_pair, List.map_map]
    have : List.map ((fun x : Int × Int × Int => ((x.1, x.2.1 == 1, (abbrAt (poolL (namesZ z)).1 x.2.2).1) : Ty)) ∘ fun x : Ty × Nat => (x.1.1, (if x.1.2.1 = true then 1 else 0), (x.2 : Int))) (z.ty.zip (poolL (namesZ z)).2) = z.ty := by
      have e2 : z.ty = (z.ty.zip (poolL (namesZ z)).2).map (·.1) := by rw [List.map_fst_zip (by omega)]
      conv => rhs; rw [e2]
      refine List.map_congr_left fun x hx => ?_
      simp only [Function.comp_apply]
      rw [at' x hx]
      obtain ⟨⟨o, d, a⟩, n⟩ := x
      cases d <;> rfl
    rw [this]
    rfl
  have eK : blockK (hdZ z) (blockB z k) k = true := by
    unfold blockK
    have em : markOk (((blockB z k).drop (oSd (hdZ z) k)).take (hdZ z).sd.toNat) (((blockB z k).drop (oUt (hdZ z) k)).take (hdZ z).ut.toNat) = true := by
      have e1 : (hdZ z).sd.toNat = 0 := rfl
      have e2 : (hdZ z).ut.toNat = 0 := rfl
      rw [e1, e2, List.take_zero, List.take_zero]; rfl
    rw [em, ty, ch, Bool.and_true, Bool.and_eq_true, List.all_map, List.all_map]
    refine ⟨List.all_eq_true.2 fun x hx => ?_, List.all_eq_true.2 fun x hx => ?_⟩
    · simp only [Function.comp_apply]
      split <;> rfl
    · simp only [Function.comp_apply]
      rw [at' x hx]
  have sz := size_hdZ hc hk
  have lb := block_len (z := z) (k := k)
  unfold blockD
  rw [if_pos ⟨by rw [sz]; have := co.ty; omega, sz.symm, eK⟩, eZ]
end Go.Proofs.YtbnpclndiichcaaGreatDoor.Pl
end
