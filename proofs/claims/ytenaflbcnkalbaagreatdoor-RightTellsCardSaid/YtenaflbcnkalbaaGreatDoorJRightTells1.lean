/- What the functions come to in plain data, with proofs, and what that answers. -/
import Derived.Test.YtenaflbcnkalbaaGreatDoorJRightTells0
import Derived.Lib.Strings
import Derived.Lib.Atoi
import Derived.Laws.Concat
import Derived.Laws.RangeAny
import Derived.Lib.Bytealg
import Derived.Lib.Join
section
set_option linter.unusedVariables false
set_option linter.unusedSimpArgs false
namespace Go.Proofs.YtenaflbcnkalbaaGreatDoor
open Go Go.Proofs.YtenaflbcnkalbaaGreatDoor.Eng
set_option maxRecDepth 100000
set_option maxHeartbeats 4000000
variable {G : Gs}
abbrev wQ0 : Type := List Eng.V × List Eng.V × List Eng.V × ByteArray × Int × Unit
abbrev wQ1 : Type := (Unit × Unit × Unit × Int × Unit) × (List Eng.V × List Eng.V × List Eng.V × ByteArray × Int × Unit) × List Eng.V × Unit
abbrev wpT2 : PT := (.cons 1 (.ptr 80 0) (.cons 2 (.nl 0) (.cons 3 (.sla 416) (.cons 4 (.int .i64) .nil))))
abbrev wpH3 : PH := (.cons 80 (.cells [.sl 3, .sl 2, .sl 2, .str, .int .i64] (.cons (.slN 3) (.cons (.slN 2) (.cons (.slN 2) (.cons .str (.cons (.int .i64) .nil)))))) (.cons 416 (.arr 1 true false) .nil))
abbrev wpL4 : PL := (.cons (.agg (.cons (.slN 3) (.cons (.slN 2) (.cons (.slN 2) (.cons .str (.cons (.int .i64) .nil)))))) .nil)
abbrev wpL5 : PL := (.cons (.sla 0) .nil)
abbrev wpH6 : PH := (.cons 0 (.arrB 1) .nil)
abbrev wQ7 : Type := (ByteArray × Bool × Int × Unit) × Unit
abbrev wpT8 : PT := (.cons 0 .str (.cons 2 .bool (.cons 3 (.int .i64) .nil)))
abbrev wpL9 : PL := (.cons .str .nil)
abbrev wpL10 : PL := (.cons .bool .nil)
abbrev wQ11 : Type := (List Eng.V × ByteArray × Unit × Bool × ByteArray × Unit × Int × Unit) × List Eng.V × Unit
abbrev wQ12 : Type := (List Eng.V × ByteArray × Unit × Bool × ByteArray × Unit × Int × Int × Int × Unit) × List Eng.V × Unit
abbrev wpT13 : PT := (.cons 0 (.slN 1) (.cons 2 .str (.cons 3 (.nl 0) (.cons 4 .bool (.cons 5 .str (.cons 6 (.sla 1024) (.cons 7 (.int .i64) (.cons 8 (.int .i64) (.cons 9 (.int .i64) .nil)))))))))
abbrev wpH14 : PH := (.cons 1024 (.arr 1 true false) .nil)
abbrev wpT15 : PT := (.cons 0 (.slN 1) (.cons 2 .str (.cons 3 (.nl 0) (.cons 4 .bool (.cons 5 .str (.cons 6 (.sla 1024) (.cons 7 (.int .i64) .nil)))))))
abbrev wpL16 : PL := (.cons (.slN 1) .nil)
abbrev wpL17 : PL := (.cons .str (.cons (.sla 0) (.cons .bool .nil)))
abbrev wQ18 : Type := Int × Int × Int × Int × Int × Int × Int × Unit
abbrev wpL19 : PL := (.cons (.agg (.cons (.int .i64) (.cons (.int .i64) (.cons (.int .i64) (.cons (.int .i64) (.cons (.int .i64) (.cons (.int .i64) (.cons (.int .i64) .nil)))))))) .nil)
abbrev wpL20 : PL := (.cons (.agg (.cons (.int .i64) (.cons (.int .i64) (.cons (.int .i64) (.cons (.int .i64) (.cons (.int .i64) (.cons (.int .i64) (.cons (.int .i64) .nil)))))))) (.cons .bool .nil))
abbrev wpL21 : PL := (.cons (.slN 2) (.cons (.int .i64) .nil))
abbrev wpL22 : PL := (.cons (.int .i64) .nil)
abbrev wpL23 : PL := (.cons (.int .i64) (.cons (.int .i64) .nil))
abbrev wpL24 : PL := (.cons (.int .i64) (.cons .bool .nil))
abbrev wQ25 : Type := (List Eng.V × Int × Int × Int × Unit) × Unit
abbrev wpT26 : PT := (.cons 0 (.slN 2) (.cons 2 (.int .i64) (.cons 3 (.int .i64) (.cons 4 (.int .i64) .nil))))
abbrev wpL27 : PL := (.cons (.slN 2) .nil)
abbrev wQ28 : Type := (ByteArray × ByteArray × ByteArray × ByteArray × Bool × Int × Unit) × Unit
abbrev wpT29 : PT := (.cons 0 .str (.cons 1 .str (.cons 4 .str (.cons 5 .str (.cons 6 .bool (.cons 7 (.int .i64) .nil))))))
abbrev wpL30 : PL := (.cons .str (.cons .str .nil))
abbrev wpL31 : PL := (.cons .str (.cons .str (.cons .bool .nil)))
abbrev wpL32 : PL := (.cons (.int .u8) .nil)
abbrev wQ33 : Type := (ByteArray × ByteArray × ByteArray × Bool × Int × Unit) × Unit
abbrev wpT34 : PT := (.cons 0 .str (.cons 2 .str (.cons 3 .str (.cons 4 .bool (.cons 9 (.int .i64) .nil)))))
abbrev wpL35 : PL := (.cons (.int .i64) (.cons .str .nil))
abbrev wQ36 : Type := (ByteArray × Int × ByteArray × Bool × ByteArray × Int × Int × Int × Unit) × Unit
abbrev wpT37 : PT := (.cons 0 .str (.cons 2 (.int .i64) (.cons 3 .str (.cons 4 .bool (.cons 5 .str (.cons 6 (.int .i64) (.cons 7 (.int .i64) (.cons 8 (.int .i64) .nil))))))))
abbrev wpL38 : PL := (.cons (.int .i64) (.cons .str (.cons .bool .nil)))
abbrev wQ39 : Type := Int × Bool × ByteArray × Unit
abbrev wpL40 : PL := (.cons (.agg (.cons (.int .i64) (.cons .bool (.cons .str .nil)))) (.cons .bool .nil))
abbrev wQ41 : Type := Int × Int × Int × Int × Int × Unit
abbrev wpL42 : PL := (.cons (.agg (.cons (.int .i64) (.cons (.int .i64) (.cons (.int .i64) (.cons (.int .i64) (.cons (.int .i64) .nil)))))) .nil)
abbrev wQ43 : Type := Int × Bool × ByteArray × Int × Bool × ByteArray × Bool × Int × Int × Int × Int × Int × Int × Int × Int × Int × Int × Unit
abbrev wpL44 : PL := (.cons (.agg (.cons (.int .i64) (.cons .bool (.cons .str (.cons (.int .i64) (.cons .bool (.cons .str (.cons .bool (.cons (.int .i64) (.cons (.int .i64) (.cons (.int .i64) (.cons (.int .i64) (.cons (.int .i64) (.cons (.int .i64) (.cons (.int .i64) (.cons (.int .i64) (.cons (.int .i64) (.cons (.int .i64) .nil)))))))))))))))))) .nil)
abbrev wpL45 : PL := (.cons (.agg (.cons (.int .i64) (.cons .bool (.cons .str (.cons (.int .i64) (.cons .bool (.cons .str (.cons .bool (.cons (.int .i64) (.cons (.int .i64) (.cons (.int .i64) (.cons (.int .i64) (.cons (.int .i64) (.cons (.int .i64) (.cons (.int .i64) (.cons (.int .i64) (.cons (.int .i64) (.cons (.int .i64) .nil)))))))))))))))))) (.cons .bool .nil))
abbrev wQ46 : Type := (ByteArray × Int × Int × Int × Int × ByteArray × Int × Int × Unit) × Unit
abbrev wpT47 : PT := (.cons 0 .str (.cons 1 (.int .i64) (.cons 2 (.int .i64) (.cons 3 (.int .i64) (.cons 8 (.int .i64) (.cons 9 .str (.cons 10 (.int .i64) (.cons 11 (.int .i64) .nil))))))))
abbrev wpL48 : PL := (.cons .str (.cons (.int .i64) (.cons (.int .i64) (.cons (.int .i64) .nil))))
abbrev wpL49 : PL := (.cons (.agg (.cons (.int .i64) (.cons (.int .i64) (.cons (.int .i64) (.cons (.int .i64) (.cons (.int .i64) .nil)))))) (.cons .str .nil))
abbrev wpL50 : PL := (.cons (.agg (.cons (.int .i64) (.cons (.int .i64) (.cons (.int .i64) (.cons (.int .i64) (.cons (.int .i64) .nil)))))) (.cons .str (.cons .bool .nil)))
abbrev wQ51 : Type := (Unit × Bool × Int × Unit) × (List Eng.V × List Eng.V × List Eng.V × ByteArray × Int × Unit) × Unit
abbrev wpT52 : PT := (.cons 1 (.ptr 80 0) (.cons 2 .bool (.cons 9 (.int .i64) .nil)))
abbrev wpH53 : PH := (.cons 80 (.cells [.sl 3, .sl 2, .sl 2, .str, .int .i64] (.cons (.slN 3) (.cons (.slN 2) (.cons (.slN 2) (.cons .str (.cons (.int .i64) .nil)))))) .nil)
abbrev wpT54 : PT := (.cons 1 (.ptr 80 0) (.cons 2 .bool (.cons 8 (.int .i64) .nil)))
abbrev wQ55 : Type := (Int × Int × Int × Int × Bool × Int × Unit) × Unit
abbrev wQ56 : Type := (Int × Int × Int × Bool × Int × Int × Int × Unit) × Unit
abbrev wpT57 : PT := (.cons 2 (.int .i64) (.cons 3 (.int .i64) (.cons 4 (.int .i64) (.cons 5 .bool (.cons 6 (.int .i64) (.cons 7 (.int .i64) (.cons 8 (.int .i64) .nil)))))))
abbrev wpT58 : PT := (.cons 0 (.int .i64) (.cons 2 (.int .i64) (.cons 3 (.int .i64) (.cons 4 (.int .i64) (.cons 5 .bool (.cons 6 (.int .i64) .nil))))))
abbrev wpL59 : PL := (.cons (.int .i64) (.cons (.int .i64) (.cons (.int .i64) (.cons .bool .nil))))
abbrev wQ60 : Type := List Eng.V × Bool × Int × Unit
abbrev wpL61 : PL := (.cons (.agg (.cons (.slN 3) (.cons .bool (.cons (.int .i64) .nil)))) (.cons (.int .i64) .nil))
abbrev wQ62 : Type := (Unit × Int × Int × Int × Int × Unit) × (List Eng.V × Bool × Int × Unit) × Unit
abbrev wpT63 : PT := (.cons 1 (.ptr 80 0) (.cons 2 (.int .i64) (.cons 3 (.int .i64) (.cons 4 (.int .i64) (.cons 5 (.int .i64) .nil)))))
abbrev wpH64 : PH := (.cons 80 (.cells [.sl 3, .bool, .int .i64] (.cons (.slN 3) (.cons .bool (.cons (.int .i64) .nil)))) .nil)
abbrev wpL65 : PL := (.cons (.agg (.cons (.slN 3) (.cons .bool (.cons (.int .i64) .nil)))) .nil)
abbrev wQ66 : Type := Unit × Unit × Unit × ByteArray × Int × Unit
abbrev wpL67 : PL := (.cons (.agg (.cons (.sla 0) (.cons (.sla 1) (.cons (.sla 2) (.cons .str (.cons (.int .i64) .nil)))))) .nil)
abbrev wpH68 : PH := (.cons 0 (.arrB 3) (.cons 1 (.arrB 2) (.cons 2 (.arrB 2) .nil)))
abbrev wQ69 : Type := (Int × Unit × Int × Int × Int × Unit) × (List Eng.V × List Eng.V × List Eng.V × ByteArray × Int × Unit) × Unit
abbrev wpT70 : PT := (.cons 1 (.int .i64) (.cons 2 (.ptr 96 0) (.cons 4 (.int .i64) (.cons 5 (.int .i64) (.cons 6 (.int .i64) .nil)))))
abbrev wpH71 : PH := (.cons 96 (.cells [.sl 3, .sl 2, .sl 2, .str, .int .i64] (.cons (.slN 3) (.cons (.slN 2) (.cons (.slN 2) (.cons .str (.cons (.int .i64) .nil)))))) .nil)
abbrev wpL72 : PL := (.cons (.agg (.cons (.slN 3) (.cons (.slN 2) (.cons (.slN 2) (.cons .str (.cons (.int .i64) .nil)))))) (.cons (.int .i64) .nil))
abbrev wQ73 : Type := (List Eng.V × Int × Int × Int × Int × Unit) × Unit
abbrev wpT74 : PT := (.cons 0 (.slN 2) (.cons 1 (.int .i64) (.cons 4 (.int .i64) (.cons 5 (.int .i64) (.cons 6 (.int .i64) .nil)))))
abbrev wpL75 : PL := (.cons (.int .i64) (.cons (.int .i64) (.cons .bool .nil)))
abbrev wQ76 : Type := (Int × Int × Int × Bool × Int × Int × Unit) × Unit
abbrev wpT77 : PT := (.cons 0 (.int .i64) (.cons 1 (.int .i64) (.cons 6 (.int .i64) (.cons 7 .bool (.cons 10 (.int .i64) (.cons 11 (.int .i64) .nil))))))
abbrev wpL78 : PL := (.cons (.int .i64) (.cons (.int .i64) (.cons (.int .i64) .nil)))
abbrev wQ79 : Type := (Unit × Int × Bool × Int × Int × Int × Int × Int × Unit) × (Int × Int × Int × Int × Int × Unit) × Unit
abbrev wpT80 : PT := (.cons 2 (.ptr 96 0) (.cons 4 (.int .i64) (.cons 5 .bool (.cons 9 (.int .i64) (.cons 11 (.int .i64) (.cons 13 (.int .i64) (.cons 14 (.int .i64) (.cons 15 (.int .i64) .nil))))))))
abbrev wpH81 : PH := (.cons 96 (.cells [.int .i64, .int .i64, .int .i64, .int .i64, .int .i64] (.cons (.int .i64) (.cons (.int .i64) (.cons (.int .i64) (.cons (.int .i64) (.cons (.int .i64) .nil)))))) .nil)
abbrev wpL82 : PL := (.cons (.agg (.cons (.int .i64) (.cons (.int .i64) (.cons (.int .i64) (.cons (.int .i64) (.cons (.int .i64) .nil)))))) (.cons (.int .i64) .nil))
abbrev wpL83 : PL := (.cons (.agg (.cons (.int .i64) (.cons .bool (.cons .str (.cons (.int .i64) (.cons .bool (.cons .str (.cons .bool (.cons (.int .i64) (.cons (.int .i64) (.cons (.int .i64) (.cons (.int .i64) (.cons (.int .i64) (.cons (.int .i64) (.cons (.int .i64) (.cons (.int .i64) (.cons (.int .i64) (.cons (.int .i64) .nil)))))))))))))))))) (.cons (.int .i64) .nil))
abbrev wpL84 : PL := (.cons (.agg (.cons (.int .i64) (.cons .bool (.cons .str .nil)))) .nil)
abbrev wQ85 : Type := Int × Int × Bool × Unit
abbrev wpL86 : PL := (.cons (.agg (.cons (.slN 3) (.cons (.slN 2) (.cons (.slN 2) (.cons .str (.cons (.int .i64) .nil)))))) (.cons (.agg (.cons (.int .i64) (.cons (.int .i64) (.cons .bool .nil)))) .nil))
abbrev wQ87 : Type := (Unit × Unit × Unit × Int × Unit × Int × Int × Unit) × (List Eng.V × List Eng.V × List Eng.V × ByteArray × Int × Unit) × (List Eng.V × Bool × Int × Unit) × List Eng.V × Unit
abbrev wpT88 : PT := (.cons 2 (.ptr 96 0) (.cons 3 (.ptr 112 0) (.cons 4 (.nl 0) (.cons 5 (.int .i64) (.cons 6 (.sla 1104) (.cons 7 (.int .i64) (.cons 8 (.int .i64) .nil)))))))
abbrev wpH89 : PH := (.cons 96 (.cells [.sl 3, .sl 2, .sl 2, .str, .int .i64] (.cons (.slN 3) (.cons (.slN 2) (.cons (.slN 2) (.cons .str (.cons (.int .i64) .nil)))))) (.cons 112 (.cells [.sl 3, .bool, .int .i64] (.cons (.slN 3) (.cons .bool (.cons (.int .i64) .nil)))) (.cons 1104 (.arr 2 true false) .nil)))
abbrev wpL90 : PL := (.cons (.agg (.cons (.slN 3) (.cons (.slN 2) (.cons (.slN 2) (.cons .str (.cons (.int .i64) .nil)))))) (.cons (.agg (.cons (.slN 3) (.cons .bool (.cons (.int .i64) .nil)))) .nil))
abbrev wpL91 : PL := (.cons (.sla 0) (.cons (.int .i64) .nil))
abbrev wpH92 : PH := (.cons 0 (.arrB 2) .nil)
abbrev wQ93 : Type := (Int × Unit × Unit × Int × Bool × Int × Int × Unit) × (List Eng.V × List Eng.V × List Eng.V × ByteArray × Int × Unit) × (List Eng.V × Bool × Int × Unit) × Unit
abbrev wpT94 : PT := (.cons 2 (.int .i64) (.cons 3 (.ptr 112 0) (.cons 4 (.ptr 128 0) (.cons 6 (.int .i64) (.cons 7 .bool (.cons 8 (.int .i64) (.cons 9 (.int .i64) .nil)))))))
abbrev wpH95 : PH := (.cons 112 (.cells [.sl 3, .sl 2, .sl 2, .str, .int .i64] (.cons (.slN 3) (.cons (.slN 2) (.cons (.slN 2) (.cons .str (.cons (.int .i64) .nil)))))) (.cons 128 (.cells [.sl 3, .bool, .int .i64] (.cons (.slN 3) (.cons .bool (.cons (.int .i64) .nil)))) .nil))
abbrev wpL96 : PL := (.cons (.agg (.cons (.slN 3) (.cons (.slN 2) (.cons (.slN 2) (.cons .str (.cons (.int .i64) .nil)))))) (.cons (.agg (.cons (.slN 3) (.cons .bool (.cons (.int .i64) .nil)))) (.cons (.int .i64) .nil)))
abbrev wQ97 : Type := (List Eng.V × Bool × Int × Unit) × Unit
abbrev wpT98 : PT := (.cons 0 (.slN 2) (.cons 2 .bool (.cons 3 (.int .i64) .nil)))
abbrev wQ99 : Type := (Unit × Unit × Unit × Int × Unit × Int × Unit) × (List Eng.V × List Eng.V × List Eng.V × ByteArray × Int × Unit) × (List Eng.V × Bool × Int × Unit) × (Unit × Unit × Unit × ByteArray × Int × Unit) × (Unit × Unit × Unit × ByteArray × Int × Unit) × (List Eng.V × Bool × Bool) × (List Eng.V × Bool × Bool) × (List Eng.V × Bool × Bool) × Unit
abbrev wpT100 : PT := (.cons 2 (.ptr 96 0) (.cons 3 (.ptr 112 0) (.cons 4 (.ptr 128 0) (.cons 5 (.int .i64) (.cons 8 (.ptr 192 0) (.cons 11 (.int .i64) .nil))))))
abbrev wpH101 : PH := (.cons 96 (.cells [.sl 3, .sl 2, .sl 2, .str, .int .i64] (.cons (.slN 3) (.cons (.slN 2) (.cons (.slN 2) (.cons .str (.cons (.int .i64) .nil)))))) (.cons 112 (.cells [.sl 3, .bool, .int .i64] (.cons (.slN 3) (.cons .bool (.cons (.int .i64) .nil)))) (.cons 128 (.cells [.sl 3, .sl 2, .sl 2, .str, .int .i64] (.cons (.nl 3) (.cons (.nl 2) (.cons (.nl 2) (.cons .str (.cons (.int .i64) .nil)))))) (.cons 192 (.cells [.sl 3, .sl 2, .sl 2, .str, .int .i64] (.cons (.sla 480) (.cons (.sla 481) (.cons (.sla 544) (.cons .str (.cons (.int .i64) .nil)))))) (.cons 480 (.arrB 3) (.cons 481 (.arrB 2) (.cons 544 (.arrB 2) .nil)))))))
abbrev wpL102 : PL := (.cons (.agg (.cons (.sla 0) (.cons (.sla 1) (.cons (.sla 2) (.cons .str (.cons (.int .i64) .nil)))))) (.cons (.int .i64) .nil))
abbrev wQ103 : Type := (Unit × Unit × Int × Unit × Int × Unit) × (List Eng.V × List Eng.V × List Eng.V × ByteArray × Int × Unit) × (Unit × Unit × Unit × ByteArray × Int × Unit) × (Unit × Unit × Unit × ByteArray × Int × Unit) × (List Eng.V × Bool × Bool) × (List Eng.V × Bool × Bool) × Unit
abbrev wpT104 : PT := (.cons 1 (.ptr 80 0) (.cons 2 (.ptr 96 0) (.cons 3 (.int .i64) (.cons 4 (.ptr 128 0) (.cons 5 (.int .i64) .nil)))))
abbrev wpH105 : PH := (.cons 80 (.cells [.sl 3, .sl 2, .sl 2, .str, .int .i64] (.cons (.slN 3) (.cons (.slN 2) (.cons (.slN 2) (.cons .str (.cons (.int .i64) .nil)))))) (.cons 96 (.cells [.sl 3, .sl 2, .sl 2, .str, .int .i64] (.cons (.nl 3) (.cons (.nl 2) (.cons (.nl 2) (.cons .str (.cons (.int .i64) .nil)))))) (.cons 128 (.cells [.sl 3, .sl 2, .sl 2, .str, .int .i64] (.cons (.sla 272) (.cons (.sla 273) (.cons (.nl 2) (.cons .str (.cons (.int .i64) .nil)))))) (.cons 272 (.arrB 3) (.cons 273 (.arrB 2) .nil)))))
abbrev wQ106 : Type := (Unit × Unit × Bool × Bool × Unit × Int × Unit × Int × Int × Bool × Int × Bool × Int × Unit) × (List Eng.V × List Eng.V × List Eng.V × ByteArray × Int × Unit) × (List Eng.V × Bool × Int × Unit) × (List Eng.V × Bool × Bool) × (List Eng.V × Bool × Bool) × Unit
abbrev wpT107 : PT := (.cons 3 (.ptr 112 0) (.cons 4 (.ptr 128 0) (.cons 6 .bool (.cons 7 .bool (.cons 20 (.sla 1712) (.cons 21 (.int .i64) (.cons 22 (.sla 1808) (.cons 23 (.int .i64) (.cons 24 (.int .i64) (.cons 25 .bool (.cons 26 (.int .i64) (.cons 27 .bool (.cons 28 (.int .i64) .nil)))))))))))))
abbrev wpH108 : PH := (.cons 112 (.cells [.sl 3, .sl 2, .sl 2, .str, .int .i64] (.cons (.slN 3) (.cons (.slN 2) (.cons (.slN 2) (.cons .str (.cons (.int .i64) .nil)))))) (.cons 128 (.cells [.sl 3, .bool, .int .i64] (.cons (.slN 3) (.cons .bool (.cons (.int .i64) .nil)))) (.cons 1712 (.arrB 2) (.cons 1808 (.arrB 2) .nil))))
abbrev Tepactref16_names : Type := wQ0 → ((List Eng.V) → Bool → Bool → Prop) → Prop
def Lepactref16_names_0 (K : (List Eng.V) → Bool → Bool → Prop) : (wQ1 → Prop) → wQ1 → Prop := fun k1 x2 =>
 (if decide (x2.1.2.2.2.1 < (↑(List.length x2.2.1.1) : Int)) then
 (if 0 ≤ x2.1.2.2.2.1 ∧ x2.1.2.2.2.1 < (↑(List.length x2.2.1.1) : Int) then
 (Eng.asStr (Eng.getC x2.2.1.1 (Int.toNat x2.1.2.2.2.1) (2 : Nat)) False fun t3 =>
 (if Eng.roomOk (List.length x2.2.2.1 + List.length [Eng.V.c (Value.string t3)]) (16 : Nat) then
 k1 (((), (), (), w64 (x2.1.2.2.2.1 + 1), ()), x2.2.1, x2.2.2.1 ++ [Eng.V.c (Value.string t3)], ())
 else
 False))
 else
 False)
 else
 K x2.2.2.1 true false)
def Lepactref16_names_0p : Lp := ⟨30, [.trim 30, .fat 3 1 416, .trim 30], wpT2, wpH3, 0⟩
def Yepactref16_names (a0 : wQ0) (K : (List Eng.V) → Bool → Bool → Prop) : Prop :=
 lp (Lepactref16_names_0 K) (((), (), (), 0, ()), a0, [], ())
def Xepactref16_names : Tepactref16_names := Yepactref16_names
def Jepactref16_names (X : Tepactref16_names) : Inst := mkI 170 wpL4 .nil wpL5 wpH6 X
def Iepactref16_names : Inst := Jepactref16_names Xepactref16_names
theorem Eepactref16_names : EqF Tryz.prog 22 gives Tryz.f170 [] [Lepactref16_names_0p] (Jepactref16_names (Yepactref16_names)) := fun x y K => by kernel_rfl
theorem Iepactref16_names_ok : InstOk Tryz.prog G.1 Iepactref16_names := iok (gives := gives) [Lepactref16_names_0p] okNil 22 follows Tryz.func170 (by kernel_rfl) (fun x => by kernel_rfl) (Eepactref16_names)
abbrev Tepactref14_Right : Type := ByteArray → (Bool → Prop) → Prop
def Lepactref14_Right_0 (K : Bool → Prop) : (wQ7 → Prop) → wQ7 → Prop := fun k1 x2 =>
 (if decide (x2.1.2.2.1 < (↑(ByteArray.size x2.1.1) : Int)) then
 (if 0 ≤ x2.1.2.2.1 ∧ x2.1.2.2.1 < (↑(ByteArray.size x2.1.1) : Int) then
 (if decide (Eng.bAt x2.1.1 (Int.toNat x2.1.2.2.1) ≥ 97) then
 (if decide (Eng.bAt x2.1.1 (Int.toNat x2.1.2.2.1) ≤ 122) then
 k1 ((x2.1.1, x2.1.2.1, w64 (x2.1.2.2.1 + 1), ()), ())
 else
 (if decide (Eng.bAt x2.1.1 (Int.toNat x2.1.2.2.1) ≥ 65) then
 (if (!decide (Eng.bAt x2.1.1 (Int.toNat x2.1.2.2.1) ≤ 90)) then
 (if decide (Eng.bAt x2.1.1 (Int.toNat x2.1.2.2.1) < 48) then
 (if (Eng.bAt x2.1.1 (Int.toNat x2.1.2.2.1) != 43) then
 (if (Eng.bAt x2.1.1 (Int.toNat x2.1.2.2.1) != 45) then
 K false
 else
 k1 ((x2.1.1, x2.1.2.1, w64 (x2.1.2.2.1 + 1), ()), ()))
 else
 k1 ((x2.1.1, x2.1.2.1, w64 (x2.1.2.2.1 + 1), ()), ()))
 else
 (if decide (Eng.bAt x2.1.1 (Int.toNat x2.1.2.2.1) > 57) then
 (if (Eng.bAt x2.1.1 (Int.toNat x2.1.2.2.1) != 43) then
 (if (Eng.bAt x2.1.1 (Int.toNat x2.1.2.2.1) != 45) then
 K false
 else
 k1 ((x2.1.1, x2.1.2.1, w64 (x2.1.2.2.1 + 1), ()), ()))
 else
 k1 ((x2.1.1, x2.1.2.1, w64 (x2.1.2.2.1 + 1), ()), ()))
 else
 k1 ((x2.1.1, x2.1.2.1, w64 (x2.1.2.2.1 + 1), ()), ())))
 else
 k1 ((x2.1.1, x2.1.2.1, w64 (x2.1.2.2.1 + 1), ()), ()))
 else
 (if decide (Eng.bAt x2.1.1 (Int.toNat x2.1.2.2.1) < 48) then
 (if (Eng.bAt x2.1.1 (Int.toNat x2.1.2.2.1) != 43) then
 (if (Eng.bAt x2.1.1 (Int.toNat x2.1.2.2.1) != 45) then
 K false
 else
 k1 ((x2.1.1, x2.1.2.1, w64 (x2.1.2.2.1 + 1), ()), ()))
 else
 k1 ((x2.1.1, x2.1.2.1, w64 (x2.1.2.2.1 + 1), ()), ()))
 else
 (if decide (Eng.bAt x2.1.1 (Int.toNat x2.1.2.2.1) > 57) then
 (if (Eng.bAt x2.1.1 (Int.toNat x2.1.2.2.1) != 43) then
 (if (Eng.bAt x2.1.1 (Int.toNat x2.1.2.2.1) != 45) then
 K false
 else
 k1 ((x2.1.1, x2.1.2.1, w64 (x2.1.2.2.1 + 1), ()), ()))
 else
 k1 ((x2.1.1, x2.1.2.1, w64 (x2.1.2.2.1 + 1), ()), ()))
 else
 k1 ((x2.1.1, x2.1.2.1, w64 (x2.1.2.2.1 + 1), ()), ())))))
 else
 (if decide (Eng.bAt x2.1.1 (Int.toNat x2.1.2.2.1) ≥ 65) then
 (if (!decide (Eng.bAt x2.1.1 (Int.toNat x2.1.2.2.1) ≤ 90)) then
 (if decide (Eng.bAt x2.1.1 (Int.toNat x2.1.2.2.1) < 48) then
 (if (Eng.bAt x2.1.1 (Int.toNat x2.1.2.2.1) != 43) then
 (if (Eng.bAt x2.1.1 (Int.toNat x2.1.2.2.1) != 45) then
 K false
 else
 k1 ((x2.1.1, x2.1.2.1, w64 (x2.1.2.2.1 + 1), ()), ()))
 else
 k1 ((x2.1.1, x2.1.2.1, w64 (x2.1.2.2.1 + 1), ()), ()))
 else
 (if decide (Eng.bAt x2.1.1 (Int.toNat x2.1.2.2.1) > 57) then
 (if (Eng.bAt x2.1.1 (Int.toNat x2.1.2.2.1) != 43) then
 (if (Eng.bAt x2.1.1 (Int.toNat x2.1.2.2.1) != 45) then
 K false
 else
 k1 ((x2.1.1, x2.1.2.1, w64 (x2.1.2.2.1 + 1), ()), ()))
 else
 k1 ((x2.1.1, x2.1.2.1, w64 (x2.1.2.2.1 + 1), ()), ()))
 else
 k1 ((x2.1.1, x2.1.2.1, w64 (x2.1.2.2.1 + 1), ()), ())))
 else
 k1 ((x2.1.1, x2.1.2.1, w64 (x2.1.2.2.1 + 1), ()), ()))
 else
 (if decide (Eng.bAt x2.1.1 (Int.toNat x2.1.2.2.1) < 48) then
 (if (Eng.bAt x2.1.1 (Int.toNat x2.1.2.2.1) != 43) then
 (if (Eng.bAt x2.1.1 (Int.toNat x2.1.2.2.1) != 45) then
 K false
 else
 k1 ((x2.1.1, x2.1.2.1, w64 (x2.1.2.2.1 + 1), ()), ()))
 else
 k1 ((x2.1.1, x2.1.2.1, w64 (x2.1.2.2.1 + 1), ()), ()))
 else
 (if decide (Eng.bAt x2.1.1 (Int.toNat x2.1.2.2.1) > 57) then
 (if (Eng.bAt x2.1.1 (Int.toNat x2.1.2.2.1) != 43) then
 (if (Eng.bAt x2.1.1 (Int.toNat x2.1.2.2.1) != 45) then
 K false
 else
 k1 ((x2.1.1, x2.1.2.1, w64 (x2.1.2.2.1 + 1), ()), ()))
 else
 k1 ((x2.1.1, x2.1.2.1, w64 (x2.1.2.2.1 + 1), ()), ()))
 else
 k1 ((x2.1.1, x2.1.2.1, w64 (x2.1.2.2.1 + 1), ()), ())))))
 else
 False)
 else
 (if decide ((↑(ByteArray.size x2.1.1) : Int) ≥ 3) then
 K (decide ((↑(ByteArray.size x2.1.1) : Int) ≤ 16))
 else
 K false))
def Lepactref14_Right_0p : Lp := ⟨13, [.trim 13], wpT8, .nil, 0⟩
def Yepactref14_Right (a0 : ByteArray) (K : Bool → Prop) : Prop :=
 lp (Lepactref14_Right_0 K) ((a0, false, 0, ()), ())
def Xepactref14_Right : Tepactref14_Right := Yepactref14_Right
def Jepactref14_Right (X : Tepactref14_Right) : Inst := mkI 137 wpL9 .nil wpL10 .nil X
def Iepactref14_Right : Inst := Jepactref14_Right Xepactref14_Right
theorem Eepactref14_Right : EqF Tryz.prog 55 gives Tryz.f137 [] [Lepactref14_Right_0p] (Jepactref14_Right (Yepactref14_Right)) := fun x y K => by kernel_rfl
theorem Iepactref14_Right_ok : InstOk Tryz.prog G.1 Iepactref14_Right := iok (gives := gives) [Lepactref14_Right_0p] okNil 55 follows Tryz.func137 (by kernel_rfl) (fun x => by kernel_rfl) (Eepactref14_Right)
abbrev Tepactref14_Pool : Type := (List Eng.V) → (ByteArray → Bool → (List Eng.V) → Bool → Bool → Prop) → Prop
def Lepactref14_Pool_1 (K : ByteArray → Bool → (List Eng.V) → Bool → Bool → Prop) (k1 : wQ11 → Prop) : (wQ12 → Prop) → wQ12 → Prop := fun k5 x6 =>
 (if decide (x6.1.2.2.2.2.2.2.2.2.1 < x6.1.2.2.2.2.2.2.1) then
 (if 0 ≤ x6.1.2.2.2.2.2.2.2.2.1 ∧ x6.1.2.2.2.2.2.2.2.2.1 < (↑(List.length x6.1.1) : Int) then
 (Eng.asStr (Eng.getC x6.1.1 (Int.toNat x6.1.2.2.2.2.2.2.2.2.1) (0 : Nat)) False fun t7 =>
 (if 0 ≤ x6.1.2.2.2.2.2.2.1 ∧ x6.1.2.2.2.2.2.2.1 < (↑(List.length x6.1.1) : Int) then
 (Eng.asStr (Eng.getC x6.1.1 (Int.toNat x6.1.2.2.2.2.2.2.1) (0 : Nat)) False fun t8 =>
 (if (ByteArray.toList t7 == ByteArray.toList t8) then
 (if 0 ≤ x6.1.2.2.2.2.2.2.2.2.1 ∧ x6.1.2.2.2.2.2.2.2.2.1 < (↑(List.length x6.2.1) : Int) then
 (Eng.asInt IntKind.i64 (Eng.getC x6.2.1 (Int.toNat x6.1.2.2.2.2.2.2.2.2.1) (0 : Nat)) False fun n9 =>
 k5 ((x6.1.1, x6.1.2.1, (), x6.1.2.2.2.1, x6.1.2.2.2.2.1, (), x6.1.2.2.2.2.2.2.1, n9, w64 (x6.1.2.2.2.2.2.2.2.2.1 + 1), ()), x6.2))
 else
 False)
 else
 k5 ((x6.1.1, x6.1.2.1, (), x6.1.2.2.2.1, x6.1.2.2.2.2.1, (), x6.1.2.2.2.2.2.2.1, x6.1.2.2.2.2.2.2.2.1, w64 (x6.1.2.2.2.2.2.2.2.2.1 + 1), ()), x6.2)))
 else
 False))
 else
 False)
 else
 (if decide (x6.1.2.2.2.2.2.2.2.1 < 0) then
 (if 0 ≤ x6.1.2.2.2.2.2.2.1 ∧ x6.1.2.2.2.2.2.2.1 < (↑(List.length x6.1.1) : Int) then
 (Eng.asStr (Eng.getC x6.1.1 (Int.toNat x6.1.2.2.2.2.2.2.1) (0 : Nat)) False fun t10 =>
 (if (↑(ByteArray.size x6.1.2.2.2.2.1 + ByteArray.size t10) : Int) > 9223372036854775807 then
 False
 else
 (if (↑(ByteArray.size (x6.1.2.2.2.2.1 ++ t10) + (1 : Nat)) : Int) > 9223372036854775807 then
 False
 else
 (lt (x6.1.2.2.2.2.1 ++ t10 ++ ByteArray.mk #[(0 : UInt8)]) fun v11 =>
 (if Eng.roomOk (List.length x6.2.1 + List.length [Eng.V.c (Value.int IntKind.i64 (↑(ByteArray.size x6.1.2.2.2.2.1) : Int))]) (8 : Nat) then
 k1 ((x6.1.1, x6.1.2.1, (), x6.1.2.2.2.1, v11, (), w64 (x6.1.2.2.2.2.2.2.1 + 1), ()), x6.2.1 ++ [Eng.V.c (Value.int IntKind.i64 (↑(ByteArray.size x6.1.2.2.2.2.1) : Int))], ())
 else
 False)))))
 else
 False)
 else
 (if Eng.roomOk (List.length x6.2.1 + List.length [Eng.V.c (Value.int IntKind.i64 x6.1.2.2.2.2.2.2.2.1)]) (8 : Nat) then
 k1 ((x6.1.1, x6.1.2.1, (), x6.1.2.2.2.1, x6.1.2.2.2.2.1, (), w64 (x6.1.2.2.2.2.2.2.1 + 1), ()), x6.2.1 ++ [Eng.V.c (Value.int IntKind.i64 x6.1.2.2.2.2.2.2.2.1)], ())
 else
 False)))
def Lepactref14_Pool_1p : Lp := ⟨1021, [.trim 1021], wpT13, wpH14, 0⟩
def Lepactref14_Pool_0 (xepactref14_Right : Tepactref14_Right) (K : ByteArray → Bool → (List Eng.V) → Bool → Bool → Prop) : (wQ11 → Prop) → wQ11 → Prop := fun k1 x2 =>
 (if decide (x2.1.2.2.2.2.2.2.1 < (↑(List.length x2.1.1) : Int)) then
 (if 0 ≤ x2.1.2.2.2.2.2.2.1 ∧ x2.1.2.2.2.2.2.2.1 < (↑(List.length x2.1.1) : Int) then
 (Eng.asStr (Eng.getC x2.1.1 (Int.toNat x2.1.2.2.2.2.2.2.1) (0 : Nat)) False fun t3 =>
 xepactref14_Right t3 (fun r4 =>
 (if (!r4) then
 K (ByteArray.mk #[]) false [] true true
 else
 lp (Lepactref14_Pool_1 K k1) ((x2.1.1, x2.1.2.1, (), x2.1.2.2.2.1, x2.1.2.2.2.2.1, (), x2.1.2.2.2.2.2.2.1, (-1), 0, ()), x2.2))))
 else
 False)
 else
 (if decide ((↑(ByteArray.size x2.1.2.2.2.2.1) : Int) > 256) then
 K (ByteArray.mk #[]) false [] true true
 else
 K x2.1.2.2.2.2.1 true x2.2.1 true false))
def Lepactref14_Pool_0p : Lp := ⟨253, [.trim 253, .fat 6 1 1024, .trim 253], wpT15, wpH14, 0⟩
def Yepactref14_Pool (xepactref14_Right : Tepactref14_Right) (a0 : (List Eng.V)) (K : ByteArray → Bool → (List Eng.V) → Bool → Bool → Prop) : Prop :=
 lp (Lepactref14_Pool_0 xepactref14_Right K) ((a0, ByteArray.mk #[], (), false, ByteArray.mk #[], (), 0, ()), [], ())
def Xepactref14_Pool : Tepactref14_Pool := Yepactref14_Pool Xepactref14_Right
def Jepactref14_Pool (X : Tepactref14_Pool) : Inst := mkI 169 wpL16 .nil wpL17 wpH6 X
def Iepactref14_Pool : Inst := Jepactref14_Pool Xepactref14_Pool
theorem Eepactref14_Pool (xepactref14_Right : Tepactref14_Right) : EqF Tryz.prog 60 gives Tryz.f169 [Jepactref14_Right xepactref14_Right] [Lepactref14_Pool_0p, Lepactref14_Pool_1p] (Jepactref14_Pool (Yepactref14_Pool xepactref14_Right)) := fun x y K => by kernel_rfl
theorem Iepactref14_Pool_ok : InstOk Tryz.prog G.1 Iepactref14_Pool := iok (gives := gives) [Lepactref14_Pool_0p, Lepactref14_Pool_1p] (okCons Iepactref14_Right_ok okNil) 60 follows Tryz.func169 (by kernel_rfl) (fun x => by kernel_rfl) (Eepactref14_Pool Xepactref14_Right)
abbrev Tepactref15_Right : Type := wQ18 → (Bool → Prop) → Prop
def Yepactref15_Right (a0 : wQ18) (K : Bool → Prop) : Prop :=
 (if decide (a0.1 < 1) then
 K false
 else
 (if decide (a0.1 > 4) then
 K false
 else
 (if decide (a0.2.2.2.2.2.1 < 1) then
 K false
 else
 (if decide (a0.2.2.2.2.2.1 > 64) then
 K false
 else
 (if decide (a0.2.2.2.2.2.2.1 < 1) then
 K false
 else
 (if decide (a0.2.2.2.2.2.2.1 > 256) then
 K false
 else
 (if decide (a0.2.2.2.1 < 0) then
 K false
 else
 (if decide (a0.2.2.2.1 > 201) then
 K false
 else
 (if decide (a0.2.2.2.2.1 < 0) then
 K false
 else
 (if decide (a0.2.2.2.2.1 > 2000) then
 K false
 else
 (if (a0.2.1 == 0) then
 (if (a0.2.2.1 == 0) then
 K true
 else
 K (a0.2.2.1 == a0.2.2.2.2.2.1))
 else
 (if (a0.2.1 == a0.2.2.2.2.2.1) then
 (if (a0.2.2.1 == 0) then
 K true
 else
 K (a0.2.2.1 == a0.2.2.2.2.2.1))
 else
 K false))))))))))))
def Xepactref15_Right : Tepactref15_Right := Yepactref15_Right
def Jepactref15_Right (X : Tepactref15_Right) : Inst := mkI 171 wpL19 .nil wpL10 .nil X
def Iepactref15_Right : Inst := Jepactref15_Right Xepactref15_Right
theorem Eepactref15_Right : EqF Tryz.prog 73 gives Tryz.f171 [] [] (Jepactref15_Right (Yepactref15_Right)) := fun x y K => by kernel_rfl
theorem Iepactref15_Right_ok : InstOk Tryz.prog G.1 Iepactref15_Right := iok (gives := gives) [] okNil 73 follows Tryz.func171 (by kernel_rfl) (fun x => by kernel_rfl) (Eepactref15_Right)
abbrev Tepactref16_Count : Type := wQ0 → (wQ18 → Bool → Prop) → Prop
def Yepactref16_Count (xepactref16_names : Tepactref16_names) (xepactref14_Pool : Tepactref14_Pool) (xepactref15_Right : Tepactref15_Right) (a0 : wQ0) (K : wQ18 → Bool → Prop) : Prop :=
 xepactref16_names a0 (fun r1 r2 r3 =>
 xepactref14_Pool r1 (fun r4 r5 r6 r7 r8 =>
 (if (!r5) then
 K (0, 0, 0, 0, 0, 0, 0, ()) false
 else
 xepactref15_Right (a0.2.2.2.2.1, 0, 0, (↑(List.length a0.2.2.1) : Int), (↑(List.length a0.2.1) : Int), (↑(List.length a0.1) : Int), (↑(ByteArray.size r4) : Int), ()) (fun r9 =>
 (if (!r9) then
 K (0, 0, 0, 0, 0, 0, 0, ()) false
 else
 K (a0.2.2.2.2.1, 0, 0, (↑(List.length a0.2.2.1) : Int), (↑(List.length a0.2.1) : Int), (↑(List.length a0.1) : Int), (↑(ByteArray.size r4) : Int), ()) true)))))
def Xepactref16_Count : Tepactref16_Count := Yepactref16_Count Xepactref16_names Xepactref14_Pool Xepactref15_Right
def Jepactref16_Count (X : Tepactref16_Count) : Inst := mkI 90 wpL4 .nil wpL20 .nil X
def Iepactref16_Count : Inst := Jepactref16_Count Xepactref16_Count
theorem Eepactref16_Count (xepactref16_names : Tepactref16_names) (xepactref14_Pool : Tepactref14_Pool) (xepactref15_Right : Tepactref15_Right) : EqF Tryz.prog 38 gives Tryz.f90 [Jepactref16_names xepactref16_names, Jepactref14_Pool xepactref14_Pool, Jepactref15_Right xepactref15_Right] [] (Jepactref16_Count (Yepactref16_Count xepactref16_names xepactref14_Pool xepactref15_Right)) := fun x y K => by kernel_rfl
theorem Iepactref16_Count_ok : InstOk Tryz.prog G.1 Iepactref16_Count := iok (gives := gives) [] (okCons Iepactref16_names_ok (okCons Iepactref14_Pool_ok (okCons Iepactref15_Right_ok okNil))) 38 follows Tryz.func90 (by kernel_rfl) (fun x => by kernel_rfl) (Eepactref16_Count Xepactref16_names Xepactref14_Pool Xepactref15_Right)
abbrev Tepactref12_ahead : Type := (List Eng.V) → Int → (Int → Prop) → Prop
def Yepactref12_ahead (a0 : (List Eng.V)) (a1 : Int) (K : Int → Prop) : Prop :=
 (if (a1 == 0) then
 K 0
 else
 (if 0 ≤ w64 (a1 - 1) ∧ w64 (a1 - 1) < (↑(List.length a0) : Int) then
 (Eng.asInt IntKind.i64 (Eng.getC a0 (Int.toNat (w64 (a1 - 1))) (1 : Nat)) False fun n2 =>
 K n2)
 else
 False))
def Xepactref12_ahead : Tepactref12_ahead := Yepactref12_ahead
def Jepactref12_ahead (X : Tepactref12_ahead) : Inst := mkI 177 wpL21 .nil wpL22 .nil X
def Iepactref12_ahead : Inst := Jepactref12_ahead Xepactref12_ahead
theorem Eepactref12_ahead : EqF Tryz.prog 13 gives Tryz.f177 [] [] (Jepactref12_ahead (Yepactref12_ahead)) := fun x y K => by kernel_rfl
theorem Iepactref12_ahead_ok : InstOk Tryz.prog G.1 Iepactref12_ahead := iok (gives := gives) [] okNil 13 follows Tryz.func177 (by kernel_rfl) (fun x => by kernel_rfl) (Eepactref12_ahead)
abbrev Tepactref01_Sub : Type := Int → Int → (Int → Bool → Prop) → Prop
def Yepactref01_Sub (a0 : Int) (a1 : Int) (K : Int → Bool → Prop) : Prop :=
 (if decide (a1 < 0) then
 (if decide (a0 > w64 (9223372036854775807 + a1)) then
 K 0 false
 else
 (if decide (a1 > 0) then
 (if decide (a0 < w64 ((-9223372036854775808) + a1)) then
 K 0 false
 else
 K (w64 (a0 - a1)) true)
 else
 K (w64 (a0 - a1)) true))
 else
 (if decide (a1 > 0) then
 (if decide (a0 < w64 ((-9223372036854775808) + a1)) then
 K 0 false
 else
 K (w64 (a0 - a1)) true)
 else
 K (w64 (a0 - a1)) true))
def Xepactref01_Sub : Tepactref01_Sub := Yepactref01_Sub
def Jepactref01_Sub (X : Tepactref01_Sub) : Inst := mkI 88 wpL23 .nil wpL24 .nil X
def Iepactref01_Sub : Inst := Jepactref01_Sub Xepactref01_Sub
theorem Eepactref01_Sub : EqF Tryz.prog 27 gives Tryz.f88 [] [] (Jepactref01_Sub (Yepactref01_Sub)) := fun x y K => by kernel_rfl
theorem Iepactref01_Sub_ok : InstOk Tryz.prog G.1 Iepactref01_Sub := iok (gives := gives) [] okNil 27 follows Tryz.func88 (by kernel_rfl) (fun x => by kernel_rfl) (Eepactref01_Sub)
abbrev Tepactref12_Check : Type := (List Eng.V) → (Int → Int → Prop) → Prop
def Lepactref12_Check_0 (xepactref12_ahead : Tepactref12_ahead) (xepactref01_Sub : Tepactref01_Sub) (K : Int → Int → Prop) : (wQ25 → Prop) → wQ25 → Prop := fun k1 x2 =>
 (if decide (x2.1.2.2.2.1 < (↑(List.length x2.1.1) : Int)) then
 (if 0 ≤ x2.1.2.2.2.1 ∧ x2.1.2.2.2.1 < (↑(List.length x2.1.1) : Int) then
 (Eng.asInt IntKind.i64 (Eng.getC x2.1.1 (Int.toNat x2.1.2.2.2.1) (1 : Nat)) False fun n3 =>
 xepactref12_ahead x2.1.1 x2.1.2.2.2.1 (fun r4 =>
 (if 0 ≤ x2.1.2.2.2.1 ∧ x2.1.2.2.2.1 < (↑(List.length x2.1.1) : Int) then
 (Eng.asInt IntKind.i64 (Eng.getC x2.1.1 (Int.toNat x2.1.2.2.2.1) (1 : Nat)) False fun n5 =>
 xepactref12_ahead x2.1.1 x2.1.2.2.2.1 (fun r6 =>
 xepactref01_Sub n5 r6 (fun r7 r8 =>
 (if r8 then
 (if (r7 == 1) then
 (if decide (x2.1.2.2.2.1 > 200) then
 K x2.1.2.2.2.1 8
 else
 (if 0 ≤ x2.1.2.2.2.1 ∧ x2.1.2.2.2.1 < (↑(List.length x2.1.1) : Int) then
 (Eng.asInt IntKind.i64 (Eng.getC x2.1.1 (Int.toNat x2.1.2.2.2.1) (0 : Nat)) False fun n9 =>
 (if decide (n9 < 0) then
 K x2.1.2.2.2.1 9
 else
 (if decide (x2.1.2.2.2.1 > 0) then
 (if (!n3 == r4) then
 (if 0 ≤ x2.1.2.2.2.1 ∧ x2.1.2.2.2.1 < (↑(List.length x2.1.1) : Int) then
 (Eng.asInt IntKind.i64 (Eng.getC x2.1.1 (Int.toNat x2.1.2.2.2.1) (0 : Nat)) False fun n10 =>
 (if 0 ≤ w64 (x2.1.2.2.2.1 - 1) ∧ w64 (x2.1.2.2.2.1 - 1) < (↑(List.length x2.1.1) : Int) then
 (Eng.asInt IntKind.i64 (Eng.getC x2.1.1 (Int.toNat (w64 (x2.1.2.2.2.1 - 1))) (0 : Nat)) False fun n11 =>
 (if decide (w64 (n10 - n11) < 2419199) then
 K x2.1.2.2.2.1 7
 else
 (if 0 ≤ x2.1.2.2.2.1 ∧ x2.1.2.2.2.1 < (↑(List.length x2.1.1) : Int) then
 (Eng.asInt IntKind.i64 (Eng.getC x2.1.1 (Int.toNat x2.1.2.2.2.1) (0 : Nat)) False fun n12 =>
 (if 0 ≤ w64 (x2.1.2.2.2.1 - 1) ∧ w64 (x2.1.2.2.2.1 - 1) < (↑(List.length x2.1.1) : Int) then
 (Eng.asInt IntKind.i64 (Eng.getC x2.1.1 (Int.toNat (w64 (x2.1.2.2.2.1 - 1))) (0 : Nat)) False fun n13 =>
 (if decide (n12 < n13) then
 K x2.1.2.2.2.1 7
 else
 k1 ((x2.1.1, x2.1.2.1, x2.1.2.2.1, w64 (x2.1.2.2.2.1 + 1), ()), ())))
 else
 False))
 else
 False)))
 else
 False))
 else
 False)
 else
 (if 0 ≤ x2.1.2.2.2.1 ∧ x2.1.2.2.2.1 < (↑(List.length x2.1.1) : Int) then
 (Eng.asInt IntKind.i64 (Eng.getC x2.1.1 (Int.toNat x2.1.2.2.2.1) (0 : Nat)) False fun n14 =>
 (if 0 ≤ w64 (x2.1.2.2.2.1 - 1) ∧ w64 (x2.1.2.2.2.1 - 1) < (↑(List.length x2.1.1) : Int) then
 (Eng.asInt IntKind.i64 (Eng.getC x2.1.1 (Int.toNat (w64 (x2.1.2.2.2.1 - 1))) (0 : Nat)) False fun n15 =>
 (if decide (n14 < n15) then
 K x2.1.2.2.2.1 7
 else
 k1 ((x2.1.1, x2.1.2.1, x2.1.2.2.1, w64 (x2.1.2.2.2.1 + 1), ()), ())))
 else
 False))
 else
 False))
 else
 k1 ((x2.1.1, x2.1.2.1, x2.1.2.2.1, w64 (x2.1.2.2.2.1 + 1), ()), ()))))
 else
 False))
 else
 (if decide (x2.1.2.2.2.1 > 200) then
 K x2.1.2.2.2.1 8
 else
 (if 0 ≤ x2.1.2.2.2.1 ∧ x2.1.2.2.2.1 < (↑(List.length x2.1.1) : Int) then
 (Eng.asInt IntKind.i64 (Eng.getC x2.1.1 (Int.toNat x2.1.2.2.2.1) (0 : Nat)) False fun n16 =>
 (if decide (n16 < 0) then
 K x2.1.2.2.2.1 9
 else
 (if (!r7 == (-1)) then
 (if (x2.1.2.2.2.1 == w64 ((↑(List.length x2.1.1) : Int) - 1)) then
 (if (!n3 == r4) then
 K x2.1.2.2.2.1 6
 else
 (if decide (x2.1.2.2.2.1 > 0) then
 (if (!n3 == r4) then
 (if 0 ≤ x2.1.2.2.2.1 ∧ x2.1.2.2.2.1 < (↑(List.length x2.1.1) : Int) then
 (Eng.asInt IntKind.i64 (Eng.getC x2.1.1 (Int.toNat x2.1.2.2.2.1) (0 : Nat)) False fun n17 =>
 (if 0 ≤ w64 (x2.1.2.2.2.1 - 1) ∧ w64 (x2.1.2.2.2.1 - 1) < (↑(List.length x2.1.1) : Int) then
 (Eng.asInt IntKind.i64 (Eng.getC x2.1.1 (Int.toNat (w64 (x2.1.2.2.2.1 - 1))) (0 : Nat)) False fun n18 =>
 (if decide (w64 (n17 - n18) < 2419199) then
 K x2.1.2.2.2.1 7
 else
 (if 0 ≤ x2.1.2.2.2.1 ∧ x2.1.2.2.2.1 < (↑(List.length x2.1.1) : Int) then
 (Eng.asInt IntKind.i64 (Eng.getC x2.1.1 (Int.toNat x2.1.2.2.2.1) (0 : Nat)) False fun n19 =>
 (if 0 ≤ w64 (x2.1.2.2.2.1 - 1) ∧ w64 (x2.1.2.2.2.1 - 1) < (↑(List.length x2.1.1) : Int) then
 (Eng.asInt IntKind.i64 (Eng.getC x2.1.1 (Int.toNat (w64 (x2.1.2.2.2.1 - 1))) (0 : Nat)) False fun n20 =>
 (if decide (n19 < n20) then
 K x2.1.2.2.2.1 7
 else
 k1 ((x2.1.1, x2.1.2.1, x2.1.2.2.1, w64 (x2.1.2.2.2.1 + 1), ()), ())))
 else
 False))
 else
 False)))
 else
 False))
 else
 False)
 else
 (if 0 ≤ x2.1.2.2.2.1 ∧ x2.1.2.2.2.1 < (↑(List.length x2.1.1) : Int) then
 (Eng.asInt IntKind.i64 (Eng.getC x2.1.1 (Int.toNat x2.1.2.2.2.1) (0 : Nat)) False fun n21 =>
 (if 0 ≤ w64 (x2.1.2.2.2.1 - 1) ∧ w64 (x2.1.2.2.2.1 - 1) < (↑(List.length x2.1.1) : Int) then
 (Eng.asInt IntKind.i64 (Eng.getC x2.1.1 (Int.toNat (w64 (x2.1.2.2.2.1 - 1))) (0 : Nat)) False fun n22 =>
 (if decide (n21 < n22) then
 K x2.1.2.2.2.1 7
 else
 k1 ((x2.1.1, x2.1.2.1, x2.1.2.2.1, w64 (x2.1.2.2.2.1 + 1), ()), ())))
 else
 False))
 else
 False))
 else
 k1 ((x2.1.1, x2.1.2.1, x2.1.2.2.1, w64 (x2.1.2.2.2.1 + 1), ()), ())))
 else
 K x2.1.2.2.2.1 6)
 else
 (if decide (x2.1.2.2.2.1 > 0) then
 (if (!n3 == r4) then
 (if 0 ≤ x2.1.2.2.2.1 ∧ x2.1.2.2.2.1 < (↑(List.length x2.1.1) : Int) then
 (Eng.asInt IntKind.i64 (Eng.getC x2.1.1 (Int.toNat x2.1.2.2.2.1) (0 : Nat)) False fun n23 =>
 (if 0 ≤ w64 (x2.1.2.2.2.1 - 1) ∧ w64 (x2.1.2.2.2.1 - 1) < (↑(List.length x2.1.1) : Int) then
 (Eng.asInt IntKind.i64 (Eng.getC x2.1.1 (Int.toNat (w64 (x2.1.2.2.2.1 - 1))) (0 : Nat)) False fun n24 =>
 (if decide (w64 (n23 - n24) < 2419199) then
 K x2.1.2.2.2.1 7
 else
 (if 0 ≤ x2.1.2.2.2.1 ∧ x2.1.2.2.2.1 < (↑(List.length x2.1.1) : Int) then
 (Eng.asInt IntKind.i64 (Eng.getC x2.1.1 (Int.toNat x2.1.2.2.2.1) (0 : Nat)) False fun n25 =>
 (if 0 ≤ w64 (x2.1.2.2.2.1 - 1) ∧ w64 (x2.1.2.2.2.1 - 1) < (↑(List.length x2.1.1) : Int) then
 (Eng.asInt IntKind.i64 (Eng.getC x2.1.1 (Int.toNat (w64 (x2.1.2.2.2.1 - 1))) (0 : Nat)) False fun n26 =>
 (if decide (n25 < n26) then
 K x2.1.2.2.2.1 7
 else
 k1 ((x2.1.1, x2.1.2.1, x2.1.2.2.1, w64 (x2.1.2.2.2.1 + 1), ()), ())))
 else
 False))
 else
 False)))
 else
 False))
 else
 False)
 else
 (if 0 ≤ x2.1.2.2.2.1 ∧ x2.1.2.2.2.1 < (↑(List.length x2.1.1) : Int) then
 (Eng.asInt IntKind.i64 (Eng.getC x2.1.1 (Int.toNat x2.1.2.2.2.1) (0 : Nat)) False fun n27 =>
 (if 0 ≤ w64 (x2.1.2.2.2.1 - 1) ∧ w64 (x2.1.2.2.2.1 - 1) < (↑(List.length x2.1.1) : Int) then
 (Eng.asInt IntKind.i64 (Eng.getC x2.1.1 (Int.toNat (w64 (x2.1.2.2.2.1 - 1))) (0 : Nat)) False fun n28 =>
 (if decide (n27 < n28) then
 K x2.1.2.2.2.1 7
 else
 k1 ((x2.1.1, x2.1.2.1, x2.1.2.2.1, w64 (x2.1.2.2.2.1 + 1), ()), ())))
 else
 False))
 else
 False))
 else
 k1 ((x2.1.1, x2.1.2.1, x2.1.2.2.1, w64 (x2.1.2.2.2.1 + 1), ()), ())))))
 else
 False)))
 else
 (if decide (x2.1.2.2.2.1 > 200) then
 K x2.1.2.2.2.1 8
 else
 (if 0 ≤ x2.1.2.2.2.1 ∧ x2.1.2.2.2.1 < (↑(List.length x2.1.1) : Int) then
 (Eng.asInt IntKind.i64 (Eng.getC x2.1.1 (Int.toNat x2.1.2.2.2.1) (0 : Nat)) False fun n29 =>
 (if decide (n29 < 0) then
 K x2.1.2.2.2.1 9
 else
 (if (x2.1.2.2.2.1 == w64 ((↑(List.length x2.1.1) : Int) - 1)) then
 (if (!n3 == r4) then
 K x2.1.2.2.2.1 6
 else
 (if decide (x2.1.2.2.2.1 > 0) then
 (if (!n3 == r4) then
 (if 0 ≤ x2.1.2.2.2.1 ∧ x2.1.2.2.2.1 < (↑(List.length x2.1.1) : Int) then
 (Eng.asInt IntKind.i64 (Eng.getC x2.1.1 (Int.toNat x2.1.2.2.2.1) (0 : Nat)) False fun n30 =>
 (if 0 ≤ w64 (x2.1.2.2.2.1 - 1) ∧ w64 (x2.1.2.2.2.1 - 1) < (↑(List.length x2.1.1) : Int) then
 (Eng.asInt IntKind.i64 (Eng.getC x2.1.1 (Int.toNat (w64 (x2.1.2.2.2.1 - 1))) (0 : Nat)) False fun n31 =>
 (if decide (w64 (n30 - n31) < 2419199) then
 K x2.1.2.2.2.1 7
 else
 (if 0 ≤ x2.1.2.2.2.1 ∧ x2.1.2.2.2.1 < (↑(List.length x2.1.1) : Int) then
 (Eng.asInt IntKind.i64 (Eng.getC x2.1.1 (Int.toNat x2.1.2.2.2.1) (0 : Nat)) False fun n32 =>
 (if 0 ≤ w64 (x2.1.2.2.2.1 - 1) ∧ w64 (x2.1.2.2.2.1 - 1) < (↑(List.length x2.1.1) : Int) then
 (Eng.asInt IntKind.i64 (Eng.getC x2.1.1 (Int.toNat (w64 (x2.1.2.2.2.1 - 1))) (0 : Nat)) False fun n33 =>
 (if decide (n32 < n33) then
 K x2.1.2.2.2.1 7
 else
 k1 ((x2.1.1, x2.1.2.1, x2.1.2.2.1, w64 (x2.1.2.2.2.1 + 1), ()), ())))
 else
 False))
 else
 False)))
 else
 False))
 else
 False)
 else
 (if 0 ≤ x2.1.2.2.2.1 ∧ x2.1.2.2.2.1 < (↑(List.length x2.1.1) : Int) then
 (Eng.asInt IntKind.i64 (Eng.getC x2.1.1 (Int.toNat x2.1.2.2.2.1) (0 : Nat)) False fun n34 =>
 (if 0 ≤ w64 (x2.1.2.2.2.1 - 1) ∧ w64 (x2.1.2.2.2.1 - 1) < (↑(List.length x2.1.1) : Int) then
 (Eng.asInt IntKind.i64 (Eng.getC x2.1.1 (Int.toNat (w64 (x2.1.2.2.2.1 - 1))) (0 : Nat)) False fun n35 =>
 (if decide (n34 < n35) then
 K x2.1.2.2.2.1 7
 else
 k1 ((x2.1.1, x2.1.2.1, x2.1.2.2.1, w64 (x2.1.2.2.2.1 + 1), ()), ())))
 else
 False))
 else
 False))
 else
 k1 ((x2.1.1, x2.1.2.1, x2.1.2.2.1, w64 (x2.1.2.2.2.1 + 1), ()), ())))
 else
 K x2.1.2.2.2.1 6)))
 else
 False))))))
 else
 False)))
 else
 False)
 else
 K (↑(List.length x2.1.1) : Int) 0)
def Lepactref12_Check_0p : Lp := ⟨29, [.trim 29], wpT26, .nil, 0⟩
def Yepactref12_Check (xepactref12_ahead : Tepactref12_ahead) (xepactref01_Sub : Tepactref01_Sub) (a0 : (List Eng.V)) (K : Int → Int → Prop) : Prop :=
 lp (Lepactref12_Check_0 xepactref12_ahead xepactref01_Sub K) ((a0, 0, 0, 0, ()), ())
def Xepactref12_Check : Tepactref12_Check := Yepactref12_Check Xepactref12_ahead Xepactref01_Sub
def Jepactref12_Check (X : Tepactref12_Check) : Inst := mkI 96 wpL27 .nil wpL23 .nil X
def Iepactref12_Check : Inst := Jepactref12_Check Xepactref12_Check
theorem Eepactref12_Check (xepactref12_ahead : Tepactref12_ahead) (xepactref01_Sub : Tepactref01_Sub) : EqF Tryz.prog 109 gives Tryz.f96 [Jepactref12_ahead xepactref12_ahead, Jepactref01_Sub xepactref01_Sub] [Lepactref12_Check_0p] (Jepactref12_Check (Yepactref12_Check xepactref12_ahead xepactref01_Sub)) := fun x y K => by kernel_rfl
theorem Iepactref12_Check_ok : InstOk Tryz.prog G.1 Iepactref12_Check := iok (gives := gives) [Lepactref12_Check_0p] (okCons Iepactref12_ahead_ok (okCons Iepactref01_Sub_ok okNil)) 109 follows Tryz.func96 (by kernel_rfl) (fun x => by kernel_rfl) (Eepactref12_Check Xepactref12_ahead Xepactref01_Sub)
abbrev Tepactref12_Right : Type := (List Eng.V) → (Bool → Prop) → Prop
def Yepactref12_Right (xepactref12_Check : Tepactref12_Check) (a0 : (List Eng.V)) (K : Bool → Prop) : Prop :=
 xepactref12_Check a0 (fun r1 r2 =>
 K (r2 == 0))
def Xepactref12_Right : Tepactref12_Right := Yepactref12_Right Xepactref12_Check
def Jepactref12_Right (X : Tepactref12_Right) : Inst := mkI 91 wpL27 .nil wpL10 .nil X
def Iepactref12_Right : Inst := Jepactref12_Right Xepactref12_Right
theorem Eepactref12_Right (xepactref12_Check : Tepactref12_Check) : EqF Tryz.prog 12 gives Tryz.f91 [Jepactref12_Check xepactref12_Check] [] (Jepactref12_Right (Yepactref12_Right xepactref12_Check)) := fun x y K => by kernel_rfl
theorem Iepactref12_Right_ok : InstOk Tryz.prog G.1 Iepactref12_Right := iok (gives := gives) [] (okCons Iepactref12_Check_ok okNil) 12 follows Tryz.func91 (by kernel_rfl) (fun x => by kernel_rfl) (Eepactref12_Right Xepactref12_Check)
abbrev Tepactref12_leaps : Type := (List Eng.V) → (Int → Prop) → Prop
def Yepactref12_leaps (xepactref12_ahead : Tepactref12_ahead) (a0 : (List Eng.V)) (K : Int → Prop) : Prop :=
 (if decide ((↑(List.length a0) : Int) > 0) then
 (if 0 ≤ w64 ((↑(List.length a0) : Int) - 1) ∧ w64 ((↑(List.length a0) : Int) - 1) < (↑(List.length a0) : Int) then
 (Eng.asInt IntKind.i64 (Eng.getC a0 (Int.toNat (w64 ((↑(List.length a0) : Int) - 1))) (1 : Nat)) False fun n1 =>
 xepactref12_ahead a0 (w64 ((↑(List.length a0) : Int) - 1)) (fun r2 =>
 (if (n1 == r2) then
 K (w64 ((↑(List.length a0) : Int) - 1))
 else
 K (↑(List.length a0) : Int))))
 else
 False)
 else
 K (↑(List.length a0) : Int))
def Xepactref12_leaps : Tepactref12_leaps := Yepactref12_leaps Xepactref12_ahead
def Jepactref12_leaps (X : Tepactref12_leaps) : Inst := mkI 168 wpL27 .nil wpL22 .nil X
def Iepactref12_leaps : Inst := Jepactref12_leaps Xepactref12_leaps
theorem Eepactref12_leaps (xepactref12_ahead : Tepactref12_ahead) : EqF Tryz.prog 24 gives Tryz.f168 [Jepactref12_ahead xepactref12_ahead] [] (Jepactref12_leaps (Yepactref12_leaps xepactref12_ahead)) := fun x y K => by kernel_rfl
theorem Iepactref12_leaps_ok : InstOk Tryz.prog G.1 Iepactref12_leaps := iok (gives := gives) [] (okCons Iepactref12_ahead_ok okNil) 24 follows Tryz.func168 (by kernel_rfl) (fun x => by kernel_rfl) (Eepactref12_leaps Xepactref12_ahead)
abbrev Tepactref12_Expiry : Type := (List Eng.V) → (Int → Bool → Prop) → Prop
def Yepactref12_Expiry (xepactref12_leaps : Tepactref12_leaps) (a0 : (List Eng.V)) (K : Int → Bool → Prop) : Prop :=
 xepactref12_leaps a0 (fun r1 =>
 (if (r1 == (↑(List.length a0) : Int)) then
 K 0 false
 else
 (if 0 ≤ r1 ∧ r1 < (↑(List.length a0) : Int) then
 (Eng.asInt IntKind.i64 (Eng.getC a0 (Int.toNat r1) (0 : Nat)) False fun n2 =>
 K n2 true)
 else
 False)))
def Xepactref12_Expiry : Tepactref12_Expiry := Yepactref12_Expiry Xepactref12_leaps
def Jepactref12_Expiry (X : Tepactref12_Expiry) : Inst := mkI 92 wpL27 .nil wpL24 .nil X
def Iepactref12_Expiry : Inst := Jepactref12_Expiry Xepactref12_Expiry
theorem Eepactref12_Expiry (xepactref12_leaps : Tepactref12_leaps) : EqF Tryz.prog 16 gives Tryz.f92 [Jepactref12_leaps xepactref12_leaps] [] (Jepactref12_Expiry (Yepactref12_Expiry xepactref12_leaps)) := fun x y K => by kernel_rfl
theorem Iepactref12_Expiry_ok : InstOk Tryz.prog G.1 Iepactref12_Expiry := iok (gives := gives) [] (okCons Iepactref12_leaps_ok okNil) 16 follows Tryz.func92 (by kernel_rfl) (fun x => by kernel_rfl) (Eepactref12_Expiry Xepactref12_leaps)
abbrev Tepactref05_Cut : Type := ByteArray → ByteArray → (ByteArray → ByteArray → Bool → Prop) → Prop
def Lepactref05_Cut_0 (K : ByteArray → ByteArray → Bool → Prop) : (wQ28 → Prop) → wQ28 → Prop := fun k2 x3 =>
 (if decide (w64 (x3.1.2.2.2.2.2.1 + (↑(ByteArray.size x3.1.2.1) : Int)) ≤ (↑(ByteArray.size x3.1.1) : Int)) then
 (if (!ByteArray.toList x3.1.2.1 == ByteArray.toList (ByteArray.mk #[])) then
 (if 0 ≤ w64 (x3.1.2.2.2.2.2.1 + (↑(ByteArray.size x3.1.2.1) : Int)) ∧ w64 (x3.1.2.2.2.2.2.1 + (↑(ByteArray.size x3.1.2.1) : Int)) ≤ (↑(ByteArray.size x3.1.1) : Int) then
 (if 0 ≤ x3.1.2.2.2.2.2.1 ∧ x3.1.2.2.2.2.2.1 ≤ w64 (x3.1.2.2.2.2.2.1 + (↑(ByteArray.size x3.1.2.1) : Int)) then
 (lt (ByteArray.extract x3.1.1 (Int.toNat x3.1.2.2.2.2.2.1) (Int.toNat (w64 (x3.1.2.2.2.2.2.1 + (↑(ByteArray.size x3.1.2.1) : Int))))) fun v4 =>
 (if (ByteArray.toList v4 == ByteArray.toList x3.1.2.1) then
 (if 0 ≤ x3.1.2.2.2.2.2.1 ∧ x3.1.2.2.2.2.2.1 ≤ (↑(ByteArray.size x3.1.1) : Int) then
 (if (0 :Int) ≤ 0 ∧ 0 ≤ x3.1.2.2.2.2.2.1 then
 (if 0 ≤ (↑(ByteArray.size x3.1.1) : Int) ∧ (↑(ByteArray.size x3.1.1) : Int) ≤ (↑(ByteArray.size x3.1.1) : Int) then
 (if 0 ≤ w64 (x3.1.2.2.2.2.2.1 + (↑(ByteArray.size x3.1.2.1) : Int)) ∧ w64 (x3.1.2.2.2.2.2.1 + (↑(ByteArray.size x3.1.2.1) : Int)) ≤ (↑(ByteArray.size x3.1.1) : Int) then
 (lt (ByteArray.extract x3.1.1 (Int.toNat (w64 (x3.1.2.2.2.2.2.1 + (↑(ByteArray.size x3.1.2.1) : Int)))) (Int.toNat (↑(ByteArray.size x3.1.1) : Int))) fun v5 =>
 K (ByteArray.extract x3.1.1 (0 : Nat) (Int.toNat x3.1.2.2.2.2.2.1)) v5 true)
 else
 False)
 else
 False)
 else
 False)
 else
 False)
 else
 k2 ((x3.1.1, x3.1.2.1, x3.1.2.2.1, x3.1.2.2.2.1, x3.1.2.2.2.2.1, w64 (x3.1.2.2.2.2.2.1 + 1), ()), ())))
 else
 False)
 else
 False)
 else
 K x3.1.1 (ByteArray.mk #[]) false)
 else
 K x3.1.1 (ByteArray.mk #[]) false)
def Lepactref05_Cut_0p : Lp := ⟨243, [.trim 243], wpT29, .nil, 0⟩
def Yepactref05_Cut (a0 : ByteArray) (a1 : ByteArray) (K : ByteArray → ByteArray → Bool → Prop) : Prop :=
 lp (Lepactref05_Cut_0 K) ((a0, a1, ByteArray.mk #[], ByteArray.mk #[], false, 0, ()), ())
def Xepactref05_Cut : Tepactref05_Cut := Yepactref05_Cut
def Jepactref05_Cut (X : Tepactref05_Cut) : Inst := mkI 222 wpL30 .nil wpL31 .nil X
def Iepactref05_Cut : Inst := Jepactref05_Cut Xepactref05_Cut
theorem Eepactref05_Cut : EqF Tryz.prog 40 gives Tryz.f222 [] [Lepactref05_Cut_0p] (Jepactref05_Cut (Yepactref05_Cut)) := fun x y K => by kernel_rfl
theorem Iepactref05_Cut_ok : InstOk Tryz.prog G.1 Iepactref05_Cut := iok (gives := gives) [Lepactref05_Cut_0p] okNil 40 follows Tryz.func222 (by kernel_rfl) (fun x => by kernel_rfl) (Eepactref05_Cut)
abbrev Tepactref18_letter : Type := Int → (Bool → Prop) → Prop
def Yepactref18_letter (a0 : Int) (K : Bool → Prop) : Prop :=
 (if decide (a0 ≥ 97) then
 (if decide (a0 ≤ 122) then
 K true
 else
 (if decide (a0 ≥ 65) then
 K (decide (a0 ≤ 90))
 else
 K false))
 else
 (if decide (a0 ≥ 65) then
 K (decide (a0 ≤ 90))
 else
 K false))
def Xepactref18_letter : Tepactref18_letter := Yepactref18_letter
def Jepactref18_letter (X : Tepactref18_letter) : Inst := mkI 223 wpL32 .nil wpL10 .nil X
def Iepactref18_letter : Inst := Jepactref18_letter Xepactref18_letter
theorem Eepactref18_letter : EqF Tryz.prog 17 gives Tryz.f223 [] [] (Jepactref18_letter (Yepactref18_letter)) := fun x y K => by kernel_rfl
theorem Iepactref18_letter_ok : InstOk Tryz.prog G.1 Iepactref18_letter := iok (gives := gives) [] okNil 17 follows Tryz.func223 (by kernel_rfl) (fun x => by kernel_rfl) (Eepactref18_letter)
abbrev Tepactref18_name : Type := ByteArray → (ByteArray → ByteArray → Bool → Prop) → Prop
def Lepactref18_name_0 (xepactref18_letter : Tepactref18_letter) (xepactref14_Right : Tepactref14_Right) (K : ByteArray → ByteArray → Bool → Prop) : (wQ33 → Prop) → wQ33 → Prop := fun k5 x6 =>
 (if decide (x6.1.2.2.2.2.1 < (↑(ByteArray.size x6.1.1) : Int)) then
 (if 0 ≤ x6.1.2.2.2.2.1 ∧ x6.1.2.2.2.2.1 < (↑(ByteArray.size x6.1.1) : Int) then
 xepactref18_letter (Eng.bAt x6.1.1 (Int.toNat x6.1.2.2.2.2.1)) (fun r7 =>
 (if r7 then
 k5 ((x6.1.1, x6.1.2.1, x6.1.2.2.1, x6.1.2.2.2.1, w64 (x6.1.2.2.2.2.1 + 1), ()), ())
 else
 (if 0 ≤ x6.1.2.2.2.2.1 ∧ x6.1.2.2.2.2.1 ≤ (↑(ByteArray.size x6.1.1) : Int) then
 (if (0 :Int) ≤ 0 ∧ 0 ≤ x6.1.2.2.2.2.1 then
 xepactref14_Right (ByteArray.extract x6.1.1 (0 : Nat) (Int.toNat x6.1.2.2.2.2.1)) (fun r8 =>
 (if 0 ≤ x6.1.2.2.2.2.1 ∧ x6.1.2.2.2.2.1 ≤ (↑(ByteArray.size x6.1.1) : Int) then
 (if (0 :Int) ≤ 0 ∧ 0 ≤ x6.1.2.2.2.2.1 then
 (if 0 ≤ (↑(ByteArray.size x6.1.1) : Int) ∧ (↑(ByteArray.size x6.1.1) : Int) ≤ (↑(ByteArray.size x6.1.1) : Int) then
 (if 0 ≤ x6.1.2.2.2.2.1 ∧ x6.1.2.2.2.2.1 ≤ (↑(ByteArray.size x6.1.1) : Int) then
 K (ByteArray.extract x6.1.1 (0 : Nat) (Int.toNat x6.1.2.2.2.2.1)) (ByteArray.extract x6.1.1 (Int.toNat x6.1.2.2.2.2.1) (Int.toNat (↑(ByteArray.size x6.1.1) : Int))) r8
 else
 False)
 else
 False)
 else
 False)
 else
 False))
 else
 False)
 else
 False)))
 else
 False)
 else
 (if 0 ≤ x6.1.2.2.2.2.1 ∧ x6.1.2.2.2.2.1 ≤ (↑(ByteArray.size x6.1.1) : Int) then
 (if (0 :Int) ≤ 0 ∧ 0 ≤ x6.1.2.2.2.2.1 then
 xepactref14_Right (ByteArray.extract x6.1.1 (0 : Nat) (Int.toNat x6.1.2.2.2.2.1)) (fun r9 =>
 (if 0 ≤ x6.1.2.2.2.2.1 ∧ x6.1.2.2.2.2.1 ≤ (↑(ByteArray.size x6.1.1) : Int) then
 (if (0 :Int) ≤ 0 ∧ 0 ≤ x6.1.2.2.2.2.1 then
 (if 0 ≤ (↑(ByteArray.size x6.1.1) : Int) ∧ (↑(ByteArray.size x6.1.1) : Int) ≤ (↑(ByteArray.size x6.1.1) : Int) then
 (if 0 ≤ x6.1.2.2.2.2.1 ∧ x6.1.2.2.2.2.1 ≤ (↑(ByteArray.size x6.1.1) : Int) then
 K (ByteArray.extract x6.1.1 (0 : Nat) (Int.toNat x6.1.2.2.2.2.1)) (ByteArray.extract x6.1.1 (Int.toNat x6.1.2.2.2.2.1) (Int.toNat (↑(ByteArray.size x6.1.1) : Int))) r9
 else
 False)
 else
 False)
 else
 False)
 else
 False))
 else
 False)
 else
 False))
def Lepactref18_name_0p : Lp := ⟨541, [.trim 541], wpT34, .nil, 0⟩
def Yepactref18_name (xepactref05_Cut : Tepactref05_Cut) (xepactref14_Right : Tepactref14_Right) (xepactref18_letter : Tepactref18_letter) (a0 : ByteArray) (K : ByteArray → ByteArray → Bool → Prop) : Prop :=
 (if decide ((↑(ByteArray.size a0) : Int) > 0) then
 (if (0 :Int) ≤ 0 ∧ 0 < (↑(ByteArray.size a0) : Int) then
 (if (Eng.bAt a0 (0 : Nat) == 60) then
 (if 0 ≤ (↑(ByteArray.size a0) : Int) ∧ (↑(ByteArray.size a0) : Int) ≤ (↑(ByteArray.size a0) : Int) then
 (if (0 :Int) ≤ 1 ∧ 1 ≤ (↑(ByteArray.size a0) : Int) then
 xepactref05_Cut (ByteArray.extract a0 (1 : Nat) (Int.toNat (↑(ByteArray.size a0) : Int))) (ByteArray.mk #[(62 : UInt8)]) (fun r1 r2 r3 =>
 xepactref14_Right r1 (fun r4 =>
 (if r3 then
 K r1 r2 r4
 else
 K r1 r2 false)))
 else
 False)
 else
 False)
 else
 lp (Lepactref18_name_0 xepactref18_letter xepactref14_Right K) ((a0, ByteArray.mk #[], ByteArray.mk #[], false, 0, ()), ()))
 else
 False)
 else
 lp (Lepactref18_name_0 xepactref18_letter xepactref14_Right K) ((a0, ByteArray.mk #[], ByteArray.mk #[], false, 0, ()), ()))
def Xepactref18_name : Tepactref18_name := Yepactref18_name Xepactref05_Cut Xepactref14_Right Xepactref18_letter
def Jepactref18_name (X : Tepactref18_name) : Inst := mkI 172 wpL9 .nil wpL31 .nil X
def Iepactref18_name : Inst := Jepactref18_name Xepactref18_name
theorem Eepactref18_name (xepactref05_Cut : Tepactref05_Cut) (xepactref14_Right : Tepactref14_Right) (xepactref18_letter : Tepactref18_letter) : EqF Tryz.prog 57 gives Tryz.f172 [Jepactref05_Cut xepactref05_Cut, Jepactref14_Right xepactref14_Right, Jepactref18_letter xepactref18_letter] [Lepactref18_name_0p] (Jepactref18_name (Yepactref18_name xepactref05_Cut xepactref14_Right xepactref18_letter)) := fun x y K => by kernel_rfl
theorem Iepactref18_name_ok : InstOk Tryz.prog G.1 Iepactref18_name := iok (gives := gives) [Lepactref18_name_0p] (okCons Iepactref05_Cut_ok (okCons Iepactref14_Right_ok (okCons Iepactref18_letter_ok okNil))) 57 follows Tryz.func172 (by kernel_rfl) (fun x => by kernel_rfl) (Eepactref18_name Xepactref05_Cut Xepactref14_Right Xepactref18_letter)
abbrev Tepactref17_two : Type := ByteArray → (Int → ByteArray → Prop) → Prop
def Yepactref17_two (a0 : ByteArray) (K : Int → ByteArray → Prop) : Prop :=
 (if decide ((↑(ByteArray.size a0) : Int) < 3) then
 K (-1) a0
 else
 (if (0 :Int) ≤ 0 ∧ 0 < (↑(ByteArray.size a0) : Int) then
 (if (Eng.bAt a0 (0 : Nat) != 58) then
 K (-1) a0
 else
 (if (0 :Int) ≤ 1 ∧ 1 < (↑(ByteArray.size a0) : Int) then
 (if decide (Eng.bAt a0 (1 : Nat) < 48) then
 K (-1) a0
 else
 (if (0 :Int) ≤ 1 ∧ 1 < (↑(ByteArray.size a0) : Int) then
 (if decide (Eng.bAt a0 (1 : Nat) > 53) then
 K (-1) a0
 else
 (if (0 :Int) ≤ 2 ∧ 2 < (↑(ByteArray.size a0) : Int) then
 (if decide (Eng.bAt a0 (2 : Nat) < 48) then
 K (-1) a0
 else
 (if (0 :Int) ≤ 2 ∧ 2 < (↑(ByteArray.size a0) : Int) then
 (if decide (Eng.bAt a0 (2 : Nat) > 57) then
 K (-1) a0
 else
 (if (0 :Int) ≤ 1 ∧ 1 < (↑(ByteArray.size a0) : Int) then
 (lt (w64 (wu8 (Eng.bAt a0 (1 : Nat) - 48))) fun v1 =>
 (if (0 :Int) ≤ 2 ∧ 2 < (↑(ByteArray.size a0) : Int) then
 (lt (w64 (wu8 (Eng.bAt a0 (2 : Nat) - 48))) fun v2 =>
 (lt (w64 (w64 (10 * v1) + v2)) fun v3 =>
 (if 0 ≤ (↑(ByteArray.size a0) : Int) ∧ (↑(ByteArray.size a0) : Int) ≤ (↑(ByteArray.size a0) : Int) then
 (if (0 :Int) ≤ 3 ∧ 3 ≤ (↑(ByteArray.size a0) : Int) then
 K v3 (ByteArray.extract a0 (3 : Nat) (Int.toNat (↑(ByteArray.size a0) : Int)))
 else
 False)
 else
 False)))
 else
 False))
 else
 False))
 else
 False))
 else
 False))
 else
 False))
 else
 False))
 else
 False))
def Xepactref17_two : Tepactref17_two := Yepactref17_two
def Jepactref17_two (X : Tepactref17_two) : Inst := mkI 224 wpL9 .nil wpL35 .nil X
def Iepactref17_two : Inst := Jepactref17_two Xepactref17_two
theorem Eepactref17_two : EqF Tryz.prog 45 gives Tryz.f224 [] [] (Jepactref17_two (Yepactref17_two)) := fun x y K => by kernel_rfl
theorem Iepactref17_two_ok : InstOk Tryz.prog G.1 Iepactref17_two := iok (gives := gives) [] okNil 45 follows Tryz.func224 (by kernel_rfl) (fun x => by kernel_rfl) (Eepactref17_two)
abbrev Tepactref17_Time : Type := ByteArray → (Int → ByteArray → Bool → Prop) → Prop
def Lepactref17_Time_0 (xepactref17_two : Tepactref17_two) (K : Int → ByteArray → Bool → Prop) : (wQ36 → Prop) → wQ36 → Prop := fun k1 x2 =>
 (if decide (x2.1.2.2.2.2.2.2.1 < (↑(ByteArray.size x2.1.2.2.2.2.1) : Int)) then
 (if decide (x2.1.2.2.2.2.2.2.1 < 3) then
 (if 0 ≤ x2.1.2.2.2.2.2.2.1 ∧ x2.1.2.2.2.2.2.2.1 < (↑(ByteArray.size x2.1.2.2.2.2.1) : Int) then
 (if decide (Eng.bAt x2.1.2.2.2.2.1 (Int.toNat x2.1.2.2.2.2.2.2.1) ≥ 48) then
 (if 0 ≤ x2.1.2.2.2.2.2.2.1 ∧ x2.1.2.2.2.2.2.2.1 < (↑(ByteArray.size x2.1.2.2.2.2.1) : Int) then
 (if decide (Eng.bAt x2.1.2.2.2.2.1 (Int.toNat x2.1.2.2.2.2.2.2.1) ≤ 57) then
 (if 0 ≤ x2.1.2.2.2.2.2.2.1 ∧ x2.1.2.2.2.2.2.2.1 < (↑(ByteArray.size x2.1.2.2.2.2.1) : Int) then
 (lt (w64 (wu8 (Eng.bAt x2.1.2.2.2.2.1 (Int.toNat x2.1.2.2.2.2.2.2.1) - 48))) fun v3 =>
 (lt (w64 (w64 (10 * x2.1.2.2.2.2.2.2.2.1) + v3)) fun v4 =>
 (if decide (v4 ≤ 167) then
 (if 0 ≤ x2.1.2.2.2.2.2.2.1 ∧ x2.1.2.2.2.2.2.2.1 < (↑(ByteArray.size x2.1.2.2.2.2.1) : Int) then
 (lt (w64 (wu8 (Eng.bAt x2.1.2.2.2.2.1 (Int.toNat x2.1.2.2.2.2.2.2.1) - 48))) fun v5 =>
 (lt (w64 (w64 (10 * x2.1.2.2.2.2.2.2.2.1) + v5)) fun v6 =>
 k1 ((x2.1.1, x2.1.2.1, x2.1.2.2.1, x2.1.2.2.2.1, x2.1.2.2.2.2.1, x2.1.2.2.2.2.2.1, w64 (x2.1.2.2.2.2.2.2.1 + 1), v6, ()), ())))
 else
 False)
 else
 (if (x2.1.2.2.2.2.2.2.1 == 0) then
 K 0 x2.1.1 false
 else
 (if 0 ≤ (↑(ByteArray.size x2.1.2.2.2.2.1) : Int) ∧ (↑(ByteArray.size x2.1.2.2.2.2.1) : Int) ≤ (↑(ByteArray.size x2.1.2.2.2.2.1) : Int) then
 (if 0 ≤ x2.1.2.2.2.2.2.2.1 ∧ x2.1.2.2.2.2.2.2.1 ≤ (↑(ByteArray.size x2.1.2.2.2.2.1) : Int) then
 xepactref17_two (ByteArray.extract x2.1.2.2.2.2.1 (Int.toNat x2.1.2.2.2.2.2.2.1) (Int.toNat (↑(ByteArray.size x2.1.2.2.2.2.1) : Int))) (fun r7 r8 =>
 (if decide (r7 < 0) then
 (lt (w64 (w64 (x2.1.2.2.2.2.2.1 * 3600) * x2.1.2.2.2.2.2.2.2.1)) fun v9 =>
 K v9 (ByteArray.extract x2.1.2.2.2.2.1 (Int.toNat x2.1.2.2.2.2.2.2.1) (Int.toNat (↑(ByteArray.size x2.1.2.2.2.2.1) : Int))) true)
 else
 xepactref17_two r8 (fun r10 r11 =>
 (if decide (r10 < 0) then
 (lt (w64 (w64 (3600 * x2.1.2.2.2.2.2.2.2.1) + w64 (60 * r7))) fun v12 =>
 K (w64 (x2.1.2.2.2.2.2.1 * v12)) r8 true)
 else
 (lt (w64 (w64 (3600 * x2.1.2.2.2.2.2.2.2.1) + w64 (60 * r7))) fun v13 =>
 (lt (w64 (x2.1.2.2.2.2.2.1 * w64 (v13 + r10))) fun v14 =>
 K v14 r11 true))))))
 else
 False)
 else
 False)))))
 else
 False)
 else
 (if (x2.1.2.2.2.2.2.2.1 == 0) then
 K 0 x2.1.1 false
 else
 (if 0 ≤ (↑(ByteArray.size x2.1.2.2.2.2.1) : Int) ∧ (↑(ByteArray.size x2.1.2.2.2.2.1) : Int) ≤ (↑(ByteArray.size x2.1.2.2.2.2.1) : Int) then
 (if 0 ≤ x2.1.2.2.2.2.2.2.1 ∧ x2.1.2.2.2.2.2.2.1 ≤ (↑(ByteArray.size x2.1.2.2.2.2.1) : Int) then
 xepactref17_two (ByteArray.extract x2.1.2.2.2.2.1 (Int.toNat x2.1.2.2.2.2.2.2.1) (Int.toNat (↑(ByteArray.size x2.1.2.2.2.2.1) : Int))) (fun r15 r16 =>
 (if decide (r15 < 0) then
 (lt (w64 (w64 (x2.1.2.2.2.2.2.1 * 3600) * x2.1.2.2.2.2.2.2.2.1)) fun v17 =>
 K v17 (ByteArray.extract x2.1.2.2.2.2.1 (Int.toNat x2.1.2.2.2.2.2.2.1) (Int.toNat (↑(ByteArray.size x2.1.2.2.2.2.1) : Int))) true)
 else
 xepactref17_two r16 (fun r18 r19 =>
 (if decide (r18 < 0) then
 (lt (w64 (w64 (3600 * x2.1.2.2.2.2.2.2.2.1) + w64 (60 * r15))) fun v20 =>
 K (w64 (x2.1.2.2.2.2.2.1 * v20)) r16 true)
 else
 (lt (w64 (w64 (3600 * x2.1.2.2.2.2.2.2.2.1) + w64 (60 * r15))) fun v21 =>
 (lt (w64 (x2.1.2.2.2.2.2.1 * w64 (v21 + r18))) fun v22 =>
 K v22 r19 true))))))
 else
 False)
 else
 False)))
 else
 False)
 else
 (if (x2.1.2.2.2.2.2.2.1 == 0) then
 K 0 x2.1.1 false
 else
 (if 0 ≤ (↑(ByteArray.size x2.1.2.2.2.2.1) : Int) ∧ (↑(ByteArray.size x2.1.2.2.2.2.1) : Int) ≤ (↑(ByteArray.size x2.1.2.2.2.2.1) : Int) then
 (if 0 ≤ x2.1.2.2.2.2.2.2.1 ∧ x2.1.2.2.2.2.2.2.1 ≤ (↑(ByteArray.size x2.1.2.2.2.2.1) : Int) then
 xepactref17_two (ByteArray.extract x2.1.2.2.2.2.1 (Int.toNat x2.1.2.2.2.2.2.2.1) (Int.toNat (↑(ByteArray.size x2.1.2.2.2.2.1) : Int))) (fun r23 r24 =>
 (if decide (r23 < 0) then
 (lt (w64 (w64 (x2.1.2.2.2.2.2.1 * 3600) * x2.1.2.2.2.2.2.2.2.1)) fun v25 =>
 K v25 (ByteArray.extract x2.1.2.2.2.2.1 (Int.toNat x2.1.2.2.2.2.2.2.1) (Int.toNat (↑(ByteArray.size x2.1.2.2.2.2.1) : Int))) true)
 else
 xepactref17_two r24 (fun r26 r27 =>
 (if decide (r26 < 0) then
 (lt (w64 (w64 (3600 * x2.1.2.2.2.2.2.2.2.1) + w64 (60 * r23))) fun v28 =>
 K (w64 (x2.1.2.2.2.2.2.1 * v28)) r24 true)
 else
 (lt (w64 (w64 (3600 * x2.1.2.2.2.2.2.2.2.1) + w64 (60 * r23))) fun v29 =>
 (lt (w64 (x2.1.2.2.2.2.2.1 * w64 (v29 + r26))) fun v30 =>
 K v30 r27 true))))))
 else
 False)
 else
 False)))
 else
 False)
 else
 (if (x2.1.2.2.2.2.2.2.1 == 0) then
 K 0 x2.1.1 false
 else
 (if 0 ≤ (↑(ByteArray.size x2.1.2.2.2.2.1) : Int) ∧ (↑(ByteArray.size x2.1.2.2.2.2.1) : Int) ≤ (↑(ByteArray.size x2.1.2.2.2.2.1) : Int) then
 (if 0 ≤ x2.1.2.2.2.2.2.2.1 ∧ x2.1.2.2.2.2.2.2.1 ≤ (↑(ByteArray.size x2.1.2.2.2.2.1) : Int) then
 xepactref17_two (ByteArray.extract x2.1.2.2.2.2.1 (Int.toNat x2.1.2.2.2.2.2.2.1) (Int.toNat (↑(ByteArray.size x2.1.2.2.2.2.1) : Int))) (fun r31 r32 =>
 (if decide (r31 < 0) then
 (lt (w64 (w64 (x2.1.2.2.2.2.2.1 * 3600) * x2.1.2.2.2.2.2.2.2.1)) fun v33 =>
 K v33 (ByteArray.extract x2.1.2.2.2.2.1 (Int.toNat x2.1.2.2.2.2.2.2.1) (Int.toNat (↑(ByteArray.size x2.1.2.2.2.2.1) : Int))) true)
 else
 xepactref17_two r32 (fun r34 r35 =>
 (if decide (r34 < 0) then
 (lt (w64 (w64 (3600 * x2.1.2.2.2.2.2.2.2.1) + w64 (60 * r31))) fun v36 =>
 K (w64 (x2.1.2.2.2.2.2.1 * v36)) r32 true)
 else
 (lt (w64 (w64 (3600 * x2.1.2.2.2.2.2.2.2.1) + w64 (60 * r31))) fun v37 =>
 (lt (w64 (x2.1.2.2.2.2.2.1 * w64 (v37 + r34))) fun v38 =>
 K v38 r35 true))))))
 else
 False)
 else
 False)))
 else
 (if (x2.1.2.2.2.2.2.2.1 == 0) then
 K 0 x2.1.1 false
 else
 (if 0 ≤ (↑(ByteArray.size x2.1.2.2.2.2.1) : Int) ∧ (↑(ByteArray.size x2.1.2.2.2.2.1) : Int) ≤ (↑(ByteArray.size x2.1.2.2.2.2.1) : Int) then
 (if 0 ≤ x2.1.2.2.2.2.2.2.1 ∧ x2.1.2.2.2.2.2.2.1 ≤ (↑(ByteArray.size x2.1.2.2.2.2.1) : Int) then
 xepactref17_two (ByteArray.extract x2.1.2.2.2.2.1 (Int.toNat x2.1.2.2.2.2.2.2.1) (Int.toNat (↑(ByteArray.size x2.1.2.2.2.2.1) : Int))) (fun r39 r40 =>
 (if decide (r39 < 0) then
 (lt (w64 (w64 (x2.1.2.2.2.2.2.1 * 3600) * x2.1.2.2.2.2.2.2.2.1)) fun v41 =>
 K v41 (ByteArray.extract x2.1.2.2.2.2.1 (Int.toNat x2.1.2.2.2.2.2.2.1) (Int.toNat (↑(ByteArray.size x2.1.2.2.2.2.1) : Int))) true)
 else
 xepactref17_two r40 (fun r42 r43 =>
 (if decide (r42 < 0) then
 (lt (w64 (w64 (3600 * x2.1.2.2.2.2.2.2.2.1) + w64 (60 * r39))) fun v44 =>
 K (w64 (x2.1.2.2.2.2.2.1 * v44)) r40 true)
 else
 (lt (w64 (w64 (3600 * x2.1.2.2.2.2.2.2.2.1) + w64 (60 * r39))) fun v45 =>
 (lt (w64 (x2.1.2.2.2.2.2.1 * w64 (v45 + r42))) fun v46 =>
 K v46 r43 true))))))
 else
 False)
 else
 False)))
def Lepactref17_Time_0p : Lp := ⟨509, [.trim 509], wpT37, .nil, 0⟩
def Yepactref17_Time (xepactref17_two : Tepactref17_two) (a0 : ByteArray) (K : Int → ByteArray → Bool → Prop) : Prop :=
 (if decide ((↑(ByteArray.size a0) : Int) > 0) then
 (if (0 :Int) ≤ 0 ∧ 0 < (↑(ByteArray.size a0) : Int) then
 (if (Eng.bAt a0 (0 : Nat) == 45) then
 (if (0 :Int) ≤ 0 ∧ 0 < (↑(ByteArray.size a0) : Int) then
 (if (Eng.bAt a0 (0 : Nat) == 45) then
 (if 0 ≤ (↑(ByteArray.size a0) : Int) ∧ (↑(ByteArray.size a0) : Int) ≤ (↑(ByteArray.size a0) : Int) then
 (if (0 :Int) ≤ 1 ∧ 1 ≤ (↑(ByteArray.size a0) : Int) then
 lp (Lepactref17_Time_0 xepactref17_two K) ((a0, 0, ByteArray.mk #[], false, ByteArray.extract a0 (1 : Nat) (Int.toNat (↑(ByteArray.size a0) : Int)), (-1), 0, 0, ()), ())
 else
 False)
 else
 False)
 else
 (if 0 ≤ (↑(ByteArray.size a0) : Int) ∧ (↑(ByteArray.size a0) : Int) ≤ (↑(ByteArray.size a0) : Int) then
 (if (0 :Int) ≤ 1 ∧ 1 ≤ (↑(ByteArray.size a0) : Int) then
 lp (Lepactref17_Time_0 xepactref17_two K) ((a0, 0, ByteArray.mk #[], false, ByteArray.extract a0 (1 : Nat) (Int.toNat (↑(ByteArray.size a0) : Int)), 1, 0, 0, ()), ())
 else
 False)
 else
 False))
 else
 False)
 else
 (if (0 :Int) ≤ 0 ∧ 0 < (↑(ByteArray.size a0) : Int) then
 (if (Eng.bAt a0 (0 : Nat) == 43) then
 (if (0 :Int) ≤ 0 ∧ 0 < (↑(ByteArray.size a0) : Int) then
 (if (Eng.bAt a0 (0 : Nat) == 45) then
 (if 0 ≤ (↑(ByteArray.size a0) : Int) ∧ (↑(ByteArray.size a0) : Int) ≤ (↑(ByteArray.size a0) : Int) then
 (if (0 :Int) ≤ 1 ∧ 1 ≤ (↑(ByteArray.size a0) : Int) then
 lp (Lepactref17_Time_0 xepactref17_two K) ((a0, 0, ByteArray.mk #[], false, ByteArray.extract a0 (1 : Nat) (Int.toNat (↑(ByteArray.size a0) : Int)), (-1), 0, 0, ()), ())
 else
 False)
 else
 False)
 else
 (if 0 ≤ (↑(ByteArray.size a0) : Int) ∧ (↑(ByteArray.size a0) : Int) ≤ (↑(ByteArray.size a0) : Int) then
 (if (0 :Int) ≤ 1 ∧ 1 ≤ (↑(ByteArray.size a0) : Int) then
 lp (Lepactref17_Time_0 xepactref17_two K) ((a0, 0, ByteArray.mk #[], false, ByteArray.extract a0 (1 : Nat) (Int.toNat (↑(ByteArray.size a0) : Int)), 1, 0, 0, ()), ())
 else
 False)
 else
 False))
 else
 False)
 else
 lp (Lepactref17_Time_0 xepactref17_two K) ((a0, 0, ByteArray.mk #[], false, a0, 1, 0, 0, ()), ()))
 else
 False))
 else
 False)
 else
 lp (Lepactref17_Time_0 xepactref17_two K) ((a0, 0, ByteArray.mk #[], false, a0, 1, 0, 0, ()), ()))
def Xepactref17_Time : Tepactref17_Time := Yepactref17_Time Xepactref17_two
def Jepactref17_Time (X : Tepactref17_Time) : Inst := mkI 173 wpL9 .nil wpL38 .nil X
def Iepactref17_Time : Inst := Jepactref17_Time Xepactref17_Time
theorem Eepactref17_Time (xepactref17_two : Tepactref17_two) : EqF Tryz.prog 116 gives Tryz.f173 [Jepactref17_two xepactref17_two] [Lepactref17_Time_0p] (Jepactref17_Time (Yepactref17_Time xepactref17_two)) := fun x y K => by kernel_rfl
theorem Iepactref17_Time_ok : InstOk Tryz.prog G.1 Iepactref17_Time := iok (gives := gives) [Lepactref17_Time_0p] (okCons Iepactref17_two_ok okNil) 116 follows Tryz.func173 (by kernel_rfl) (fun x => by kernel_rfl) (Eepactref17_Time Xepactref17_two)
abbrev Tepactref18_kind : Type := wQ39 → Bool → (Bool → Prop) → Prop
def Yepactref18_kind (xepactref14_Right : Tepactref14_Right) (a0 : wQ39) (a1 : Bool) (K : Bool → Prop) : Prop :=
 xepactref14_Right a0.2.2.1 (fun r2 =>
 (if r2 then
 (if (a0.2.1 == a1) then
 (if decide (a0.1 ≥ (-89999)) then
 K (decide (a0.1 ≤ 89999))
 else
 K false)
 else
 K false)
 else
 K false))
def Xepactref18_kind : Tepactref18_kind := Yepactref18_kind Xepactref14_Right
def Jepactref18_kind (X : Tepactref18_kind) : Inst := mkI 256 wpL40 .nil wpL10 .nil X
def Iepactref18_kind : Inst := Jepactref18_kind Xepactref18_kind
theorem Eepactref18_kind (xepactref14_Right : Tepactref14_Right) : EqF Tryz.prog 26 gives Tryz.f256 [Jepactref14_Right xepactref14_Right] [] (Jepactref18_kind (Yepactref18_kind xepactref14_Right)) := fun x y K => by kernel_rfl
theorem Iepactref18_kind_ok : InstOk Tryz.prog G.1 Iepactref18_kind := iok (gives := gives) [] (okCons Iepactref14_Right_ok okNil) 26 follows Tryz.func256 (by kernel_rfl) (fun x => by kernel_rfl) (Eepactref18_kind Xepactref14_Right)
abbrev Tepactref17_Right : Type := wQ41 → (Bool → Prop) → Prop
def Yepactref17_Right (a0 : wQ41) (K : Bool → Prop) : Prop :=
 (if decide (a0.2.2.2.2.1 < (-604799)) then
 K false
 else
 (if decide (a0.2.2.2.2.1 > 604799) then
 K false
 else
 (if (a0.1 == 0) then
 (if decide (a0.2.1 ≥ 1) then
 (if decide (a0.2.1 ≤ 12) then
 (if decide (a0.2.2.1 ≥ 1) then
 (if decide (a0.2.2.1 ≤ 5) then
 (if decide (a0.2.2.2.1 ≥ 0) then
 K (decide (a0.2.2.2.1 ≤ 6))
 else
 K false)
 else
 K false)
 else
 K false)
 else
 K false)
 else
 K false)
 else
 (if (a0.1 == 1) then
 (if decide (a0.2.1 ≥ 1) then
 (if decide (a0.2.1 ≤ 365) then
 (if (a0.2.2.1 == 0) then
 K (a0.2.2.2.1 == 0)
 else
 K false)
 else
 K false)
 else
 K false)
 else
 (if (a0.1 == 2) then
 (if decide (a0.2.1 ≥ 0) then
 (if decide (a0.2.1 ≤ 365) then
 (if (a0.2.2.1 == 0) then
 K (a0.2.2.2.1 == 0)
 else
 K false)
 else
 K false)
 else
 K false)
 else
 K false)))))
def Xepactref17_Right : Tepactref17_Right := Yepactref17_Right
def Jepactref17_Right (X : Tepactref17_Right) : Inst := mkI 227 wpL42 .nil wpL10 .nil X
def Iepactref17_Right : Inst := Jepactref17_Right Xepactref17_Right
theorem Eepactref17_Right : EqF Tryz.prog 83 gives Tryz.f227 [] [] (Jepactref17_Right (Yepactref17_Right)) := fun x y K => by kernel_rfl
theorem Iepactref17_Right_ok : InstOk Tryz.prog G.1 Iepactref17_Right := iok (gives := gives) [] okNil 83 follows Tryz.func227 (by kernel_rfl) (fun x => by kernel_rfl) (Eepactref17_Right)
abbrev Tepactref18_Right : Type := wQ43 → (Bool → Prop) → Prop
def Yepactref18_Right (xepactref18_kind : Tepactref18_kind) (xepactref17_Right : Tepactref17_Right) (a0 : wQ43) (K : Bool → Prop) : Prop :=
 (if (!a0.2.2.2.2.2.2.1) then
 xepactref18_kind (a0.1, a0.2.1, a0.2.2.1, ()) false (fun r1 =>
 (if r1 then
 (lt (a0.2.2.2.1 == 0 && (a0.2.2.2.2.1 == false && (ByteArray.toList a0.2.2.2.2.2.1 == ByteArray.toList (ByteArray.mk #[]) && true))) fun v2 =>
 (if v2 then
 (lt (a0.2.2.2.2.2.2.2.1 == 0 && (a0.2.2.2.2.2.2.2.2.1 == 0 && (a0.2.2.2.2.2.2.2.2.2.1 == 0 && (a0.2.2.2.2.2.2.2.2.2.2.1 == 0 && (a0.2.2.2.2.2.2.2.2.2.2.2.1 == 0 && true))))) fun v3 =>
 (if v3 then
 (lt (a0.2.2.2.2.2.2.2.2.2.2.2.2.1 == 0 && (a0.2.2.2.2.2.2.2.2.2.2.2.2.2.1 == 0 && (a0.2.2.2.2.2.2.2.2.2.2.2.2.2.2.1 == 0 && (a0.2.2.2.2.2.2.2.2.2.2.2.2.2.2.2.1 == 0 && (a0.2.2.2.2.2.2.2.2.2.2.2.2.2.2.2.2.1 == 0 && true))))) fun v4 =>
 K v4)
 else
 K false))
 else
 K false))
 else
 K false))
 else
 xepactref17_Right (a0.2.2.2.2.2.2.2.1, a0.2.2.2.2.2.2.2.2.1, a0.2.2.2.2.2.2.2.2.2.1, a0.2.2.2.2.2.2.2.2.2.2.1, a0.2.2.2.2.2.2.2.2.2.2.2.1, ()) (fun r5 =>
 xepactref17_Right a0.2.2.2.2.2.2.2.2.2.2.2.2 (fun r6 =>
 (if r5 then
 (if r6 then
 xepactref18_kind (a0.1, a0.2.1, a0.2.2.1, ()) false (fun r7 =>
 (if r7 then
 xepactref18_kind (a0.2.2.2.1, a0.2.2.2.2.1, a0.2.2.2.2.2.1, ()) true (fun r8 =>
 K r8)
 else
 K false))
 else
 K false)
 else
 K false))))
def Xepactref18_Right : Tepactref18_Right := Yepactref18_Right Xepactref18_kind Xepactref17_Right
def Jepactref18_Right (X : Tepactref18_Right) : Inst := mkI 225 wpL44 .nil wpL10 .nil X
def Iepactref18_Right : Inst := Jepactref18_Right Xepactref18_Right
theorem Eepactref18_Right (xepactref18_kind : Tepactref18_kind) (xepactref17_Right : Tepactref17_Right) : EqF Tryz.prog 53 gives Tryz.f225 [Jepactref18_kind xepactref18_kind, Jepactref17_Right xepactref17_Right] [] (Jepactref18_Right (Yepactref18_Right xepactref18_kind xepactref17_Right)) := fun x y K => by kernel_rfl
theorem Iepactref18_Right_ok : InstOk Tryz.prog G.1 Iepactref18_Right := iok (gives := gives) [] (okCons Iepactref18_kind_ok (okCons Iepactref17_Right_ok okNil)) 53 follows Tryz.func225 (by kernel_rfl) (fun x => by kernel_rfl) (Eepactref18_Right Xepactref18_kind Xepactref17_Right)
abbrev Tepactref18_checked : Type := wQ43 → (wQ43 → Bool → Prop) → Prop
def Yepactref18_checked (xepactref18_Right : Tepactref18_Right) (a0 : wQ43) (K : wQ43 → Bool → Prop) : Prop :=
 xepactref18_Right a0 (fun r1 =>
 (if (!r1) then
 K (0, false, ByteArray.mk #[], 0, false, ByteArray.mk #[], false, 0, 0, 0, 0, 0, 0, 0, 0, 0, 0, ()) false
 else
 K a0 true))
def Xepactref18_checked : Tepactref18_checked := Yepactref18_checked Xepactref18_Right
def Jepactref18_checked (X : Tepactref18_checked) : Inst := mkI 174 wpL44 .nil wpL45 .nil X
def Iepactref18_checked : Inst := Jepactref18_checked Xepactref18_checked
theorem Eepactref18_checked (xepactref18_Right : Tepactref18_Right) : EqF Tryz.prog 9 gives Tryz.f174 [Jepactref18_Right xepactref18_Right] [] (Jepactref18_checked (Yepactref18_checked xepactref18_Right)) := fun x y K => by kernel_rfl
theorem Iepactref18_checked_ok : InstOk Tryz.prog G.1 Iepactref18_checked := iok (gives := gives) [] (okCons Iepactref18_Right_ok okNil) 9 follows Tryz.func174 (by kernel_rfl) (fun x => by kernel_rfl) (Eepactref18_checked Xepactref18_Right)
abbrev Tepactref17_number : Type := ByteArray → Int → Int → Int → (Int → ByteArray → Prop) → Prop
def Lepactref17_number_0 (K : Int → ByteArray → Prop) : (wQ46 → Prop) → wQ46 → Prop := fun k4 x5 =>
 (if decide (x5.1.2.2.2.2.2.2.2.1 < (↑(ByteArray.size x5.1.1) : Int)) then
 (if 0 ≤ x5.1.2.2.2.2.2.2.2.1 ∧ x5.1.2.2.2.2.2.2.2.1 < (↑(ByteArray.size x5.1.1) : Int) then
 (if decide (Eng.bAt x5.1.1 (Int.toNat x5.1.2.2.2.2.2.2.2.1) ≥ 48) then
 (if 0 ≤ x5.1.2.2.2.2.2.2.2.1 ∧ x5.1.2.2.2.2.2.2.2.1 < (↑(ByteArray.size x5.1.1) : Int) then
 (if decide (Eng.bAt x5.1.1 (Int.toNat x5.1.2.2.2.2.2.2.2.1) ≤ 57) then
 (if decide (x5.1.2.2.2.2.2.2.2.1 ≤ x5.1.2.2.1) then
 (if 0 ≤ x5.1.2.2.2.2.2.2.2.1 ∧ x5.1.2.2.2.2.2.2.2.1 < (↑(ByteArray.size x5.1.1) : Int) then
 (lt (w64 (wu8 (Eng.bAt x5.1.1 (Int.toNat x5.1.2.2.2.2.2.2.2.1) - 48))) fun v6 =>
 (lt (w64 (w64 (10 * x5.1.2.2.2.2.2.2.1) + v6)) fun v7 =>
 k4 ((x5.1.1, x5.1.2.1, x5.1.2.2.1, x5.1.2.2.2.1, x5.1.2.2.2.2.1, x5.1.2.2.2.2.2.1, v7, w64 (x5.1.2.2.2.2.2.2.2.1 + 1), ()), ())))
 else
 False)
 else
 (if decide (x5.1.2.2.2.2.2.2.2.1 < x5.1.2.1) then
 K (-1) x5.1.1
 else
 (if decide (x5.1.2.2.2.2.2.2.2.1 > x5.1.2.2.1) then
 K (-1) x5.1.1
 else
 (if decide (x5.1.2.2.2.2.2.2.1 > x5.1.2.2.2.1) then
 K (-1) x5.1.1
 else
 (if 0 ≤ (↑(ByteArray.size x5.1.1) : Int) ∧ (↑(ByteArray.size x5.1.1) : Int) ≤ (↑(ByteArray.size x5.1.1) : Int) then
 (if 0 ≤ x5.1.2.2.2.2.2.2.2.1 ∧ x5.1.2.2.2.2.2.2.2.1 ≤ (↑(ByteArray.size x5.1.1) : Int) then
 K x5.1.2.2.2.2.2.2.1 (ByteArray.extract x5.1.1 (Int.toNat x5.1.2.2.2.2.2.2.2.1) (Int.toNat (↑(ByteArray.size x5.1.1) : Int)))
 else
 False)
 else
 False)))))
 else
 (if decide (x5.1.2.2.2.2.2.2.2.1 < x5.1.2.1) then
 K (-1) x5.1.1
 else
 (if decide (x5.1.2.2.2.2.2.2.2.1 > x5.1.2.2.1) then
 K (-1) x5.1.1
 else
 (if decide (x5.1.2.2.2.2.2.2.1 > x5.1.2.2.2.1) then
 K (-1) x5.1.1
 else
 (if 0 ≤ (↑(ByteArray.size x5.1.1) : Int) ∧ (↑(ByteArray.size x5.1.1) : Int) ≤ (↑(ByteArray.size x5.1.1) : Int) then
 (if 0 ≤ x5.1.2.2.2.2.2.2.2.1 ∧ x5.1.2.2.2.2.2.2.2.1 ≤ (↑(ByteArray.size x5.1.1) : Int) then
 K x5.1.2.2.2.2.2.2.1 (ByteArray.extract x5.1.1 (Int.toNat x5.1.2.2.2.2.2.2.2.1) (Int.toNat (↑(ByteArray.size x5.1.1) : Int)))
 else
 False)
 else
 False)))))
 else
 False)
 else
 (if decide (x5.1.2.2.2.2.2.2.2.1 < x5.1.2.1) then
 K (-1) x5.1.1
 else
 (if decide (x5.1.2.2.2.2.2.2.2.1 > x5.1.2.2.1) then
 K (-1) x5.1.1
 else
 (if decide (x5.1.2.2.2.2.2.2.1 > x5.1.2.2.2.1) then
 K (-1) x5.1.1
 else
 (if 0 ≤ (↑(ByteArray.size x5.1.1) : Int) ∧ (↑(ByteArray.size x5.1.1) : Int) ≤ (↑(ByteArray.size x5.1.1) : Int) then
 (if 0 ≤ x5.1.2.2.2.2.2.2.2.1 ∧ x5.1.2.2.2.2.2.2.2.1 ≤ (↑(ByteArray.size x5.1.1) : Int) then
 K x5.1.2.2.2.2.2.2.1 (ByteArray.extract x5.1.1 (Int.toNat x5.1.2.2.2.2.2.2.2.1) (Int.toNat (↑(ByteArray.size x5.1.1) : Int)))
 else
 False)
 else
 False)))))
 else
 False)
 else
 (if decide (x5.1.2.2.2.2.2.2.2.1 < x5.1.2.1) then
 K (-1) x5.1.1
 else
 (if decide (x5.1.2.2.2.2.2.2.2.1 > x5.1.2.2.1) then
 K (-1) x5.1.1
 else
 (if decide (x5.1.2.2.2.2.2.2.1 > x5.1.2.2.2.1) then
 K (-1) x5.1.1
 else
 (if 0 ≤ (↑(ByteArray.size x5.1.1) : Int) ∧ (↑(ByteArray.size x5.1.1) : Int) ≤ (↑(ByteArray.size x5.1.1) : Int) then
 (if 0 ≤ x5.1.2.2.2.2.2.2.2.1 ∧ x5.1.2.2.2.2.2.2.2.1 ≤ (↑(ByteArray.size x5.1.1) : Int) then
 K x5.1.2.2.2.2.2.2.1 (ByteArray.extract x5.1.1 (Int.toNat x5.1.2.2.2.2.2.2.2.1) (Int.toNat (↑(ByteArray.size x5.1.1) : Int)))
 else
 False)
 else
 False)))))
def Lepactref17_number_0p : Lp := ⟨3855, [.trim 3855], wpT47, .nil, 0⟩
def Yepactref17_number (a0 : ByteArray) (a1 : Int) (a2 : Int) (a3 : Int) (K : Int → ByteArray → Prop) : Prop :=
 lp (Lepactref17_number_0 K) ((a0, a1, a2, a3, 0, ByteArray.mk #[], 0, 0, ()), ())
def Xepactref17_number : Tepactref17_number := Yepactref17_number
def Jepactref17_number (X : Tepactref17_number) : Inst := mkI 257 wpL48 .nil wpL35 .nil X
def Iepactref17_number : Inst := Jepactref17_number Xepactref17_number
theorem Eepactref17_number : EqF Tryz.prog 61 gives Tryz.f257 [] [Lepactref17_number_0p] (Jepactref17_number (Yepactref17_number)) := fun x y K => by kernel_rfl
theorem Iepactref17_number_ok : InstOk Tryz.prog G.1 Iepactref17_number := iok (gives := gives) [Lepactref17_number_0p] okNil 61 follows Tryz.func257 (by kernel_rfl) (fun x => by kernel_rfl) (Eepactref17_number)
abbrev Tepactref17_dot : Type := ByteArray → (Int → ByteArray → Prop) → Prop
def Yepactref17_dot (xepactref17_number : Tepactref17_number) (a0 : ByteArray) (K : Int → ByteArray → Prop) : Prop :=
 (if decide ((↑(ByteArray.size a0) : Int) < 1) then
 K (-1) a0
 else
 (if (0 :Int) ≤ 0 ∧ 0 < (↑(ByteArray.size a0) : Int) then
 (if (Eng.bAt a0 (0 : Nat) != 46) then
 K (-1) a0
 else
 (if 0 ≤ (↑(ByteArray.size a0) : Int) ∧ (↑(ByteArray.size a0) : Int) ≤ (↑(ByteArray.size a0) : Int) then
 (if (0 :Int) ≤ 1 ∧ 1 ≤ (↑(ByteArray.size a0) : Int) then
 xepactref17_number (ByteArray.extract a0 (1 : Nat) (Int.toNat (↑(ByteArray.size a0) : Int))) 1 1 9 (fun r1 r2 =>
 K r1 r2)
 else
 False)
 else
 False))
 else
 False))
def Xepactref17_dot : Tepactref17_dot := Yepactref17_dot Xepactref17_number
def Jepactref17_dot (X : Tepactref17_dot) : Inst := mkI 258 wpL9 .nil wpL35 .nil X
def Iepactref17_dot : Inst := Jepactref17_dot Xepactref17_dot
theorem Eepactref17_dot (xepactref17_number : Tepactref17_number) : EqF Tryz.prog 18 gives Tryz.f258 [Jepactref17_number xepactref17_number] [] (Jepactref17_dot (Yepactref17_dot xepactref17_number)) := fun x y K => by kernel_rfl
theorem Iepactref17_dot_ok : InstOk Tryz.prog G.1 Iepactref17_dot := iok (gives := gives) [] (okCons Iepactref17_number_ok okNil) 18 follows Tryz.func258 (by kernel_rfl) (fun x => by kernel_rfl) (Eepactref17_dot Xepactref17_number)
abbrev Tepactref17_head : Type := ByteArray → (wQ41 → ByteArray → Prop) → Prop
def Yepactref17_head (xepactref17_number : Tepactref17_number) (xepactref17_dot : Tepactref17_dot) (a0 : ByteArray) (K : wQ41 → ByteArray → Prop) : Prop :=
 (if decide ((↑(ByteArray.size a0) : Int) > 0) then
 (if (0 :Int) ≤ 0 ∧ 0 < (↑(ByteArray.size a0) : Int) then
 (if (Eng.bAt a0 (0 : Nat) == 77) then
 (if 0 ≤ (↑(ByteArray.size a0) : Int) ∧ (↑(ByteArray.size a0) : Int) ≤ (↑(ByteArray.size a0) : Int) then
 (if (0 :Int) ≤ 1 ∧ 1 ≤ (↑(ByteArray.size a0) : Int) then
 xepactref17_number (ByteArray.extract a0 (1 : Nat) (Int.toNat (↑(ByteArray.size a0) : Int))) 1 2 12 (fun r1 r2 =>
 xepactref17_dot r2 (fun r3 r4 =>
 xepactref17_dot r4 (fun r5 r6 =>
 K (0, r1, r3, r5, 7200, ()) r6)))
 else
 False)
 else
 False)
 else
 (if decide ((↑(ByteArray.size a0) : Int) > 0) then
 (if (0 :Int) ≤ 0 ∧ 0 < (↑(ByteArray.size a0) : Int) then
 (if (Eng.bAt a0 (0 : Nat) == 74) then
 (if 0 ≤ (↑(ByteArray.size a0) : Int) ∧ (↑(ByteArray.size a0) : Int) ≤ (↑(ByteArray.size a0) : Int) then
 (if (0 :Int) ≤ 1 ∧ 1 ≤ (↑(ByteArray.size a0) : Int) then
 xepactref17_number (ByteArray.extract a0 (1 : Nat) (Int.toNat (↑(ByteArray.size a0) : Int))) 1 3 365 (fun r7 r8 =>
 K (1, r7, 0, 0, 7200, ()) r8)
 else
 False)
 else
 False)
 else
 xepactref17_number a0 1 3 365 (fun r9 r10 =>
 K (2, r9, 0, 0, 7200, ()) r10))
 else
 False)
 else
 xepactref17_number a0 1 3 365 (fun r11 r12 =>
 K (2, r11, 0, 0, 7200, ()) r12)))
 else
 False)
 else
 (if decide ((↑(ByteArray.size a0) : Int) > 0) then
 (if (0 :Int) ≤ 0 ∧ 0 < (↑(ByteArray.size a0) : Int) then
 (if (Eng.bAt a0 (0 : Nat) == 74) then
 (if 0 ≤ (↑(ByteArray.size a0) : Int) ∧ (↑(ByteArray.size a0) : Int) ≤ (↑(ByteArray.size a0) : Int) then
 (if (0 :Int) ≤ 1 ∧ 1 ≤ (↑(ByteArray.size a0) : Int) then
 xepactref17_number (ByteArray.extract a0 (1 : Nat) (Int.toNat (↑(ByteArray.size a0) : Int))) 1 3 365 (fun r13 r14 =>
 K (1, r13, 0, 0, 7200, ()) r14)
 else
 False)
 else
 False)
 else
 xepactref17_number a0 1 3 365 (fun r15 r16 =>
 K (2, r15, 0, 0, 7200, ()) r16))
 else
 False)
 else
 xepactref17_number a0 1 3 365 (fun r17 r18 =>
 K (2, r17, 0, 0, 7200, ()) r18)))
def Xepactref17_head : Tepactref17_head := Yepactref17_head Xepactref17_number Xepactref17_dot
def Jepactref17_head (X : Tepactref17_head) : Inst := mkI 226 wpL9 .nil wpL49 .nil X
def Iepactref17_head : Inst := Jepactref17_head Xepactref17_head
theorem Eepactref17_head (xepactref17_number : Tepactref17_number) (xepactref17_dot : Tepactref17_dot) : EqF Tryz.prog 67 gives Tryz.f226 [Jepactref17_number xepactref17_number, Jepactref17_dot xepactref17_dot] [] (Jepactref17_head (Yepactref17_head xepactref17_number xepactref17_dot)) := fun x y K => by kernel_rfl
theorem Iepactref17_head_ok : InstOk Tryz.prog G.1 Iepactref17_head := iok (gives := gives) [] (okCons Iepactref17_number_ok (okCons Iepactref17_dot_ok okNil)) 67 follows Tryz.func226 (by kernel_rfl) (fun x => by kernel_rfl) (Eepactref17_head Xepactref17_number Xepactref17_dot)
abbrev Tepactref17_Parse : Type := ByteArray → (wQ41 → ByteArray → Bool → Prop) → Prop
def Yepactref17_Parse (xepactref17_head : Tepactref17_head) (xepactref17_Right : Tepactref17_Right) (xepactref17_Time : Tepactref17_Time) (a0 : ByteArray) (K : wQ41 → ByteArray → Bool → Prop) : Prop :=
 xepactref17_head a0 (fun r1 r2 =>
 xepactref17_Right r1 (fun r3 =>
 (if (!r3) then
 K (0, 0, 0, 0, 0, ()) a0 false
 else
 (if decide ((↑(ByteArray.size r2) : Int) > 0) then
 (if (0 :Int) ≤ 0 ∧ 0 < (↑(ByteArray.size r2) : Int) then
 (if (Eng.bAt r2 (0 : Nat) == 47) then
 (if 0 ≤ (↑(ByteArray.size r2) : Int) ∧ (↑(ByteArray.size r2) : Int) ≤ (↑(ByteArray.size r2) : Int) then
 (if (0 :Int) ≤ 1 ∧ 1 ≤ (↑(ByteArray.size r2) : Int) then
 xepactref17_Time (ByteArray.extract r2 (1 : Nat) (Int.toNat (↑(ByteArray.size r2) : Int))) (fun r4 r5 r6 =>
 (if (!r6) then
 K (0, 0, 0, 0, 0, ()) a0 false
 else
 K (r1.1, r1.2.1, r1.2.2.1, r1.2.2.2.1, r4, ()) r5 true))
 else
 False)
 else
 False)
 else
 K r1 r2 true)
 else
 False)
 else
 K r1 r2 true))))
def Xepactref17_Parse : Tepactref17_Parse := Yepactref17_Parse Xepactref17_head Xepactref17_Right Xepactref17_Time
def Jepactref17_Parse (X : Tepactref17_Parse) : Inst := mkI 175 wpL9 .nil wpL50 .nil X
def Iepactref17_Parse : Inst := Jepactref17_Parse Xepactref17_Parse
theorem Eepactref17_Parse (xepactref17_head : Tepactref17_head) (xepactref17_Right : Tepactref17_Right) (xepactref17_Time : Tepactref17_Time) : EqF Tryz.prog 44 gives Tryz.f175 [Jepactref17_head xepactref17_head, Jepactref17_Right xepactref17_Right, Jepactref17_Time xepactref17_Time] [] (Jepactref17_Parse (Yepactref17_Parse xepactref17_head xepactref17_Right xepactref17_Time)) := fun x y K => by kernel_rfl
theorem Iepactref17_Parse_ok : InstOk Tryz.prog G.1 Iepactref17_Parse := iok (gives := gives) [] (okCons Iepactref17_head_ok (okCons Iepactref17_Right_ok (okCons Iepactref17_Time_ok okNil))) 44 follows Tryz.func175 (by kernel_rfl) (fun x => by kernel_rfl) (Eepactref17_Parse Xepactref17_head Xepactref17_Right Xepactref17_Time)
abbrev Tepactref18_Parse : Type := ByteArray → (wQ43 → Bool → Prop) → Prop
def Yepactref18_Parse (xepactref18_name : Tepactref18_name) (xepactref17_Time : Tepactref17_Time) (xepactref18_checked : Tepactref18_checked) (xepactref17_Parse : Tepactref17_Parse) (a0 : ByteArray) (K : wQ43 → Bool → Prop) : Prop :=
 xepactref18_name a0 (fun r1 r2 r3 =>
 xepactref17_Time r2 (fun r4 r5 r6 =>
 (if (!r3) then
 K (0, false, ByteArray.mk #[], 0, false, ByteArray.mk #[], false, 0, 0, 0, 0, 0, 0, 0, 0, 0, 0, ()) false
 else
 (if (!r6) then
 K (0, false, ByteArray.mk #[], 0, false, ByteArray.mk #[], false, 0, 0, 0, 0, 0, 0, 0, 0, 0, 0, ()) false
 else
 (if (ByteArray.toList r5 == ByteArray.toList (ByteArray.mk #[])) then
 xepactref18_checked (w64 (0 - r4), false, r1, 0, false, ByteArray.mk #[], false, 0, 0, 0, 0, 0, 0, 0, 0, 0, 0, ()) (fun r7 r8 =>
 K r7 r8)
 else
 xepactref18_name r5 (fun r9 r10 r11 =>
 (lt (w64 (w64 (0 - r4) + 3600)) fun v12 =>
 xepactref17_Time r10 (fun r13 r14 r15 =>
 (if r15 then
 (if (!r11) then
 K (0, false, ByteArray.mk #[], 0, false, ByteArray.mk #[], false, 0, 0, 0, 0, 0, 0, 0, 0, 0, 0, ()) false
 else
 (if ((↑(ByteArray.size r14) : Int) == 0) then
 K (0, false, ByteArray.mk #[], 0, false, ByteArray.mk #[], false, 0, 0, 0, 0, 0, 0, 0, 0, 0, 0, ()) false
 else
 (if (0 :Int) ≤ 0 ∧ 0 < (↑(ByteArray.size r14) : Int) then
 (if (Eng.bAt r14 (0 : Nat) != 44) then
 K (0, false, ByteArray.mk #[], 0, false, ByteArray.mk #[], false, 0, 0, 0, 0, 0, 0, 0, 0, 0, 0, ()) false
 else
 (if 0 ≤ (↑(ByteArray.size r14) : Int) ∧ (↑(ByteArray.size r14) : Int) ≤ (↑(ByteArray.size r14) : Int) then
 (if (0 :Int) ≤ 1 ∧ 1 ≤ (↑(ByteArray.size r14) : Int) then
 xepactref17_Parse (ByteArray.extract r14 (1 : Nat) (Int.toNat (↑(ByteArray.size r14) : Int))) (fun r16 r17 r18 =>
 (if (!r18) then
 K (0, false, ByteArray.mk #[], 0, false, ByteArray.mk #[], false, 0, 0, 0, 0, 0, 0, 0, 0, 0, 0, ()) false
 else
 (if ((↑(ByteArray.size r17) : Int) == 0) then
 K (0, false, ByteArray.mk #[], 0, false, ByteArray.mk #[], false, 0, 0, 0, 0, 0, 0, 0, 0, 0, 0, ()) false
 else
 (if (0 :Int) ≤ 0 ∧ 0 < (↑(ByteArray.size r17) : Int) then
 (if (Eng.bAt r17 (0 : Nat) != 44) then
 K (0, false, ByteArray.mk #[], 0, false, ByteArray.mk #[], false, 0, 0, 0, 0, 0, 0, 0, 0, 0, 0, ()) false
 else
 (if 0 ≤ (↑(ByteArray.size r17) : Int) ∧ (↑(ByteArray.size r17) : Int) ≤ (↑(ByteArray.size r17) : Int) then
 (if (0 :Int) ≤ 1 ∧ 1 ≤ (↑(ByteArray.size r17) : Int) then
 xepactref17_Parse (ByteArray.extract r17 (1 : Nat) (Int.toNat (↑(ByteArray.size r17) : Int))) (fun r19 r20 r21 =>
 (if (!r21) then
 K (0, false, ByteArray.mk #[], 0, false, ByteArray.mk #[], false, 0, 0, 0, 0, 0, 0, 0, 0, 0, 0, ()) false
 else
 (if (!ByteArray.toList r20 == ByteArray.toList (ByteArray.mk #[])) then
 K (0, false, ByteArray.mk #[], 0, false, ByteArray.mk #[], false, 0, 0, 0, 0, 0, 0, 0, 0, 0, 0, ()) false
 else
 xepactref18_checked (w64 (0 - r4), false, r1, w64 (0 - r13), true, r9, true, r16.1, r16.2.1, r16.2.2.1, r16.2.2.2.1, r16.2.2.2.2.1, r19) (fun r22 r23 =>
 K r22 r23))))
 else
 False)
 else
 False))
 else
 False))))
 else
 False)
 else
 False))
 else
 False)))
 else
 (if (!r11) then
 K (0, false, ByteArray.mk #[], 0, false, ByteArray.mk #[], false, 0, 0, 0, 0, 0, 0, 0, 0, 0, 0, ()) false
 else
 (if ((↑(ByteArray.size r14) : Int) == 0) then
 K (0, false, ByteArray.mk #[], 0, false, ByteArray.mk #[], false, 0, 0, 0, 0, 0, 0, 0, 0, 0, 0, ()) false
 else
 (if (0 :Int) ≤ 0 ∧ 0 < (↑(ByteArray.size r14) : Int) then
 (if (Eng.bAt r14 (0 : Nat) != 44) then
 K (0, false, ByteArray.mk #[], 0, false, ByteArray.mk #[], false, 0, 0, 0, 0, 0, 0, 0, 0, 0, 0, ()) false
 else
 (if 0 ≤ (↑(ByteArray.size r14) : Int) ∧ (↑(ByteArray.size r14) : Int) ≤ (↑(ByteArray.size r14) : Int) then
 (if (0 :Int) ≤ 1 ∧ 1 ≤ (↑(ByteArray.size r14) : Int) then
 xepactref17_Parse (ByteArray.extract r14 (1 : Nat) (Int.toNat (↑(ByteArray.size r14) : Int))) (fun r24 r25 r26 =>
 (if (!r26) then
 K (0, false, ByteArray.mk #[], 0, false, ByteArray.mk #[], false, 0, 0, 0, 0, 0, 0, 0, 0, 0, 0, ()) false
 else
 (if ((↑(ByteArray.size r25) : Int) == 0) then
 K (0, false, ByteArray.mk #[], 0, false, ByteArray.mk #[], false, 0, 0, 0, 0, 0, 0, 0, 0, 0, 0, ()) false
 else
 (if (0 :Int) ≤ 0 ∧ 0 < (↑(ByteArray.size r25) : Int) then
 (if (Eng.bAt r25 (0 : Nat) != 44) then
 K (0, false, ByteArray.mk #[], 0, false, ByteArray.mk #[], false, 0, 0, 0, 0, 0, 0, 0, 0, 0, 0, ()) false
 else
 (if 0 ≤ (↑(ByteArray.size r25) : Int) ∧ (↑(ByteArray.size r25) : Int) ≤ (↑(ByteArray.size r25) : Int) then
 (if (0 :Int) ≤ 1 ∧ 1 ≤ (↑(ByteArray.size r25) : Int) then
 xepactref17_Parse (ByteArray.extract r25 (1 : Nat) (Int.toNat (↑(ByteArray.size r25) : Int))) (fun r27 r28 r29 =>
 (if (!r29) then
 K (0, false, ByteArray.mk #[], 0, false, ByteArray.mk #[], false, 0, 0, 0, 0, 0, 0, 0, 0, 0, 0, ()) false
 else
 (if (!ByteArray.toList r28 == ByteArray.toList (ByteArray.mk #[])) then
 K (0, false, ByteArray.mk #[], 0, false, ByteArray.mk #[], false, 0, 0, 0, 0, 0, 0, 0, 0, 0, 0, ()) false
 else
 xepactref18_checked (w64 (0 - r4), false, r1, v12, true, r9, true, r24.1, r24.2.1, r24.2.2.1, r24.2.2.2.1, r24.2.2.2.2.1, r27) (fun r30 r31 =>
 K r30 r31))))
 else
 False)
 else
 False))
 else
 False))))
 else
 False)
 else
 False))
 else
 False))))))))))))
def Xepactref18_Parse : Tepactref18_Parse := Yepactref18_Parse Xepactref18_name Xepactref17_Time Xepactref18_checked Xepactref17_Parse
def Jepactref18_Parse (X : Tepactref18_Parse) : Inst := mkI 93 wpL9 .nil wpL45 .nil X
def Iepactref18_Parse : Inst := Jepactref18_Parse Xepactref18_Parse
theorem Eepactref18_Parse (xepactref18_name : Tepactref18_name) (xepactref17_Time : Tepactref17_Time) (xepactref18_checked : Tepactref18_checked) (xepactref17_Parse : Tepactref17_Parse) : EqF Tryz.prog 133 gives Tryz.f93 [Jepactref18_name xepactref18_name, Jepactref17_Time xepactref17_Time, Jepactref18_checked xepactref18_checked, Jepactref17_Parse xepactref17_Parse] [] (Jepactref18_Parse (Yepactref18_Parse xepactref18_name xepactref17_Time xepactref18_checked xepactref17_Parse)) := fun x y K => by kernel_rfl
theorem Iepactref18_Parse_ok : InstOk Tryz.prog G.1 Iepactref18_Parse := iok (gives := gives) [] (okCons Iepactref18_name_ok (okCons Iepactref17_Time_ok (okCons Iepactref18_checked_ok (okCons Iepactref17_Parse_ok okNil)))) 133 follows Tryz.func93 (by kernel_rfl) (fun x => by kernel_rfl) (Eepactref18_Parse Xepactref18_name Xepactref17_Time Xepactref18_checked Xepactref17_Parse)
abbrev Tepactref19_Right : Type := wQ0 → (Bool → Prop) → Prop
def Lepactref19_Right_1 (xepactref18_Parse : Tepactref18_Parse) (K : Bool → Prop) (k6 : wQ51 → Prop) : (wQ51 → Prop) → wQ51 → Prop := fun k10 x11 =>
 (if decide (x11.1.2.2.1 < (↑(List.length x11.2.1.2.1) : Int)) then
 (if 0 ≤ x11.1.2.2.1 ∧ x11.1.2.2.1 < (↑(List.length x11.2.1.2.1) : Int) then
 (Eng.asInt IntKind.i64 (Eng.getC x11.2.1.2.1 (Int.toNat x11.1.2.2.1) (1 : Nat)) False fun n12 =>
 (if decide (n12 < 0) then
 K false
 else
 (if 0 ≤ x11.1.2.2.1 ∧ x11.1.2.2.1 < (↑(List.length x11.2.1.2.1) : Int) then
 (Eng.asInt IntKind.i64 (Eng.getC x11.2.1.2.1 (Int.toNat x11.1.2.2.1) (1 : Nat)) False fun n13 =>
 (if decide (n13 ≥ (↑(List.length x11.2.1.1) : Int)) then
 K false
 else
 (if decide (x11.1.2.2.1 > 0) then
 (if 0 ≤ x11.1.2.2.1 ∧ x11.1.2.2.1 < (↑(List.length x11.2.1.2.1) : Int) then
 (Eng.asInt IntKind.i64 (Eng.getC x11.2.1.2.1 (Int.toNat x11.1.2.2.1) (0 : Nat)) False fun n14 =>
 (if 0 ≤ w64 (x11.1.2.2.1 - 1) ∧ w64 (x11.1.2.2.1 - 1) < (↑(List.length x11.2.1.2.1) : Int) then
 (Eng.asInt IntKind.i64 (Eng.getC x11.2.1.2.1 (Int.toNat (w64 (x11.1.2.2.1 - 1))) (0 : Nat)) False fun n15 =>
 (if decide (n14 ≤ n15) then
 K false
 else
 k10 (((), x11.1.2.1, w64 (x11.1.2.2.1 + 1), ()), x11.2)))
 else
 False))
 else
 False)
 else
 k10 (((), x11.1.2.1, w64 (x11.1.2.2.1 + 1), ()), x11.2))))
 else
 False)))
 else
 False)
 else
 (if (ByteArray.toList x11.2.1.2.2.2.1 == ByteArray.toList (ByteArray.mk #[])) then
 K true
 else
 xepactref18_Parse x11.2.1.2.2.2.1 (fun r16 r17 =>
 (if decide (r16.2.2.2.2.2.2.2.2.2.2.2.1 < 0) then
 (if r17 then
 (if decide (x11.2.1.2.2.2.2.1 > 1) then
 K (decide (x11.2.1.2.2.2.2.1 > 2))
 else
 K false)
 else
 K false)
 else
 (if decide (r16.2.2.2.2.2.2.2.2.2.2.2.1 > 86400) then
 (if r17 then
 (if decide (x11.2.1.2.2.2.2.1 > 1) then
 K (decide (x11.2.1.2.2.2.2.1 > 2))
 else
 K false)
 else
 K false)
 else
 (if decide (r16.2.2.2.2.2.2.2.2.2.2.2.2.2.2.2.2.1 < 0) then
 (if r17 then
 (if decide (x11.2.1.2.2.2.2.1 > 1) then
 K (decide (x11.2.1.2.2.2.2.1 > 2))
 else
 K false)
 else
 K false)
 else
 (if r17 then
 (if decide (x11.2.1.2.2.2.2.1 > 1) then
 (if (!decide (r16.2.2.2.2.2.2.2.2.2.2.2.2.2.2.2.2.1 > 86400)) then
 K true
 else
 K (decide (x11.2.1.2.2.2.2.1 > 2)))
 else
 K false)
 else
 K false)))))))
def Lepactref19_Right_1p : Lp := ⟨518, [.trim 518], wpT52, wpH53, 0⟩
def Lepactref19_Right_0 (xepactref18_Parse : Tepactref18_Parse) (K : Bool → Prop) : (wQ51 → Prop) → wQ51 → Prop := fun k6 x7 =>
 (if decide (x7.1.2.2.1 < (↑(List.length x7.2.1.1) : Int)) then
 (if 0 ≤ x7.1.2.2.1 ∧ x7.1.2.2.1 < (↑(List.length x7.2.1.1) : Int) then
 (Eng.asInt IntKind.i64 (Eng.getC x7.2.1.1 (Int.toNat x7.1.2.2.1) (0 : Nat)) False fun n8 =>
 (if decide (n8 < (-89999)) then
 K false
 else
 (if 0 ≤ x7.1.2.2.1 ∧ x7.1.2.2.1 < (↑(List.length x7.2.1.1) : Int) then
 (Eng.asInt IntKind.i64 (Eng.getC x7.2.1.1 (Int.toNat x7.1.2.2.1) (0 : Nat)) False fun n9 =>
 (if decide (n9 > 93599) then
 K false
 else
 k6 (((), x7.1.2.1, w64 (x7.1.2.2.1 + 1), ()), x7.2)))
 else
 False)))
 else
 False)
 else
 lp (Lepactref19_Right_1 xepactref18_Parse K k6) (((), x7.1.2.1, 0, ()), x7.2))
def Lepactref19_Right_0p : Lp := ⟨262, [.trim 262], wpT54, wpH53, 0⟩
def Yepactref19_Right (xepactref16_Count : Tepactref16_Count) (xepactref12_Right : Tepactref12_Right) (xepactref12_Expiry : Tepactref12_Expiry) (xepactref18_Parse : Tepactref18_Parse) (a0 : wQ0) (K : Bool → Prop) : Prop :=
 xepactref16_Count a0 (fun r1 r2 =>
 xepactref12_Right a0.2.2.1 (fun r3 =>
 xepactref12_Expiry a0.2.2.1 (fun r4 r5 =>
 (if (!r2) then
 K false
 else
 (if (!r3) then
 K false
 else
 (if r5 then
 (if (a0.2.2.2.2.1 != 4) then
 K false
 else
 lp (Lepactref19_Right_0 xepactref18_Parse K) (((), false, 0, ()), a0, ()))
 else
 lp (Lepactref19_Right_0 xepactref18_Parse K) (((), false, 0, ()), a0, ())))))))
def Xepactref19_Right : Tepactref19_Right := Yepactref19_Right Xepactref16_Count Xepactref12_Right Xepactref12_Expiry Xepactref18_Parse
def Jepactref19_Right (X : Tepactref19_Right) : Inst := mkI 30 wpL4 .nil wpL10 .nil X
def Iepactref19_Right : Inst := Jepactref19_Right Xepactref19_Right
theorem Eepactref19_Right (xepactref16_Count : Tepactref16_Count) (xepactref12_Right : Tepactref12_Right) (xepactref12_Expiry : Tepactref12_Expiry) (xepactref18_Parse : Tepactref18_Parse) : EqF Tryz.prog 156 gives Tryz.f30 [Jepactref16_Count xepactref16_Count, Jepactref12_Right xepactref12_Right, Jepactref12_Expiry xepactref12_Expiry, Jepactref18_Parse xepactref18_Parse] [Lepactref19_Right_0p, Lepactref19_Right_1p] (Jepactref19_Right (Yepactref19_Right xepactref16_Count xepactref12_Right xepactref12_Expiry xepactref18_Parse)) := fun x y K => by kernel_rfl
theorem Iepactref19_Right_ok : InstOk Tryz.prog G.1 Iepactref19_Right := iok (gives := gives) [Lepactref19_Right_0p, Lepactref19_Right_1p] (okCons Iepactref16_Count_ok (okCons Iepactref12_Right_ok (okCons Iepactref12_Expiry_ok (okCons Iepactref18_Parse_ok okNil)))) 156 follows Tryz.func30 (by kernel_rfl) (fun x => by kernel_rfl) (Eepactref19_Right Xepactref16_Count Xepactref12_Right Xepactref12_Expiry Xepactref18_Parse)
abbrev Tepactref21_plain : Type := wQ0 → (Bool → Prop) → Prop
def Yepactref21_plain (xepactref19_Right : Tepactref19_Right) (a0 : wQ0) (K : Bool → Prop) : Prop :=
 xepactref19_Right a0 (fun r1 =>
 (if r1 then
 K ((↑(List.length a0.2.2.1) : Int) == 0)
 else
 K false))
def Xepactref21_plain : Tepactref21_plain := Yepactref21_plain Xepactref19_Right
def Jepactref21_plain (X : Tepactref21_plain) : Inst := mkI 82 wpL4 .nil wpL10 .nil X
def Iepactref21_plain : Inst := Jepactref21_plain Xepactref21_plain
theorem Eepactref21_plain (xepactref19_Right : Tepactref19_Right) : EqF Tryz.prog 13 gives Tryz.f82 [Jepactref19_Right xepactref19_Right] [] (Jepactref21_plain (Yepactref21_plain xepactref19_Right)) := fun x y K => by kernel_rfl
theorem Iepactref21_plain_ok : InstOk Tryz.prog G.1 Iepactref21_plain := iok (gives := gives) [] (okCons Iepactref19_Right_ok okNil) 13 follows Tryz.func82 (by kernel_rfl) (fun x => by kernel_rfl) (Eepactref21_plain Xepactref19_Right)
abbrev Tepactref03_first : Type := Int → (Int → Prop) → Prop
def Yepactref03_first (a0 : Int) (K : Int → Prop) : Prop :=
 (lt (w64 (365 * w64 (a0 - 1))) fun v1 =>
 (lt (w64 (Int.tdiv (w64 (a0 - 1)) 4)) fun v2 =>
 (lt (w64 (Int.tdiv (w64 (a0 - 1)) 100)) fun v3 =>
 (lt (w64 (w64 (v1 + v2) - v3)) fun v4 =>
 (lt (w64 (Int.tdiv (w64 (a0 - 1)) 400)) fun v5 =>
 (lt (w64 (w64 (v4 + v5) + (-719162))) fun v6 =>
 K v6))))))
def Xepactref03_first : Tepactref03_first := Yepactref03_first
def Jepactref03_first (X : Tepactref03_first) : Inst := mkI 211 wpL22 .nil wpL22 .nil X
def Iepactref03_first : Inst := Jepactref03_first Xepactref03_first
theorem Eepactref03_first : EqF Tryz.prog 18 gives Tryz.f211 [] [] (Jepactref03_first (Yepactref03_first)) := fun x y K => by kernel_rfl
theorem Iepactref03_first_ok : InstOk Tryz.prog G.1 Iepactref03_first := iok (gives := gives) [] okNil 18 follows Tryz.func211 (by kernel_rfl) (fun x => by kernel_rfl) (Eepactref03_first)
abbrev Tepactref03_Leap : Type := Int → (Bool → Prop) → Prop
def Yepactref03_Leap (a0 : Int) (K : Bool → Prop) : Prop :=
 (if (Int.tmod a0 (4 :Int) == 0) then
 (if (Int.tmod a0 (100 :Int) != 0) then
 K true
 else
 K (Int.tmod a0 (400 :Int) == 0))
 else
 K (Int.tmod a0 (400 :Int) == 0))
def Xepactref03_Leap : Tepactref03_Leap := Yepactref03_Leap
def Jepactref03_Leap (X : Tepactref03_Leap) : Inst := mkI 251 wpL22 .nil wpL10 .nil X
def Iepactref03_Leap : Inst := Jepactref03_Leap Xepactref03_Leap
theorem Eepactref03_Leap : EqF Tryz.prog 16 gives Tryz.f251 [] [] (Jepactref03_Leap (Yepactref03_Leap)) := fun x y K => by kernel_rfl
theorem Iepactref03_Leap_ok : InstOk Tryz.prog G.1 Iepactref03_Leap := iok (gives := gives) [] okNil 16 follows Tryz.func251 (by kernel_rfl) (fun x => by kernel_rfl) (Eepactref03_Leap)
abbrev Tepactref03_days : Type := Int → Int → (Int → Prop) → Prop
def Yepactref03_days (xepactref03_Leap : Tepactref03_Leap) (a0 : Int) (a1 : Int) (K : Int → Prop) : Prop :=
 (if (a1 == 2) then
 xepactref03_Leap a0 (fun r2 =>
 (if r2 then
 K 29
 else
 (if 0 ≤ w64 (a1 - 1) ∧ w64 (a1 - 1) < 12 then
 (Eng.asInt IntKind.i64 (Eng.getC [Eng.V.c (Value.int IntKind.i64 31), Eng.V.c (Value.int IntKind.i64 28), Eng.V.c (Value.int IntKind.i64 31), Eng.V.c (Value.int IntKind.i64 30), Eng.V.c (Value.int IntKind.i64 31), Eng.V.c (Value.int IntKind.i64 30), Eng.V.c (Value.int IntKind.i64 31), Eng.V.c (Value.int IntKind.i64 31), Eng.V.c (Value.int IntKind.i64 30), Eng.V.c (Value.int IntKind.i64 31), Eng.V.c (Value.int IntKind.i64 30), Eng.V.c (Value.int IntKind.i64 31)] (Int.toNat (w64 (a1 - 1))) (0 : Nat)) False fun n3 =>
 K n3)
 else
 False)))
 else
 (if 0 ≤ w64 (a1 - 1) ∧ w64 (a1 - 1) < 12 then
 (Eng.asInt IntKind.i64 (Eng.getC [Eng.V.c (Value.int IntKind.i64 31), Eng.V.c (Value.int IntKind.i64 28), Eng.V.c (Value.int IntKind.i64 31), Eng.V.c (Value.int IntKind.i64 30), Eng.V.c (Value.int IntKind.i64 31), Eng.V.c (Value.int IntKind.i64 30), Eng.V.c (Value.int IntKind.i64 31), Eng.V.c (Value.int IntKind.i64 31), Eng.V.c (Value.int IntKind.i64 30), Eng.V.c (Value.int IntKind.i64 31), Eng.V.c (Value.int IntKind.i64 30), Eng.V.c (Value.int IntKind.i64 31)] (Int.toNat (w64 (a1 - 1))) (0 : Nat)) False fun n4 =>
 K n4)
 else
 False))
def Xepactref03_days : Tepactref03_days := Yepactref03_days Xepactref03_Leap
def Jepactref03_days (X : Tepactref03_days) : Inst := mkI 212 wpL23 .nil wpL22 .nil X
def Iepactref03_days : Inst := Jepactref03_days Xepactref03_days
theorem Eepactref03_days (xepactref03_Leap : Tepactref03_Leap) : EqF Tryz.prog 18 gives Tryz.f212 [Jepactref03_Leap xepactref03_Leap] [] (Jepactref03_days (Yepactref03_days xepactref03_Leap)) := fun x y K => by kernel_rfl
theorem Iepactref03_days_ok : InstOk Tryz.prog G.1 Iepactref03_days := iok (gives := gives) [] (okCons Iepactref03_Leap_ok okNil) 18 follows Tryz.func212 (by kernel_rfl) (fun x => by kernel_rfl) (Eepactref03_days Xepactref03_Leap)
abbrev Tepactref03_Date : Type := Int → (Int → Int → Int → Bool → Prop) → Prop
def Lepactref03_Date_1 (xepactref03_days : Tepactref03_days) (K : Int → Int → Int → Bool → Prop) (k2 : wQ55 → Prop) : (wQ56 → Prop) → wQ56 → Prop := fun k6 x7 =>
 xepactref03_days x7.1.2.2.2.2.1 x7.1.2.2.2.2.2.2.1 (fun r8 =>
 (if decide (x7.1.2.2.2.2.2.1 ≥ r8) then
 xepactref03_days x7.1.2.2.2.2.1 x7.1.2.2.2.2.2.2.1 (fun r9 =>
 k6 ((x7.1.1, x7.1.2.1, x7.1.2.2.1, x7.1.2.2.2.1, x7.1.2.2.2.2.1, w64 (x7.1.2.2.2.2.2.1 - r9), w64 (x7.1.2.2.2.2.2.2.1 + 1), ()), ()))
 else
 K x7.1.2.2.2.2.1 x7.1.2.2.2.2.2.2.1 (w64 (x7.1.2.2.2.2.2.1 + 1)) true))
def Lepactref03_Date_1p : Lp := ⟨508, [.trim 508], wpT57, .nil, 0⟩
def Lepactref03_Date_0 (xepactref03_first : Tepactref03_first) (xepactref03_days : Tepactref03_days) (K : Int → Int → Int → Bool → Prop) : (wQ55 → Prop) → wQ55 → Prop := fun k2 x3 =>
 xepactref03_first (w64 (x3.1.2.2.2.2.2.1 + 1)) (fun r4 =>
 (if decide (r4 ≤ x3.1.1) then
 k2 ((x3.1.1, x3.1.2.1, x3.1.2.2.1, x3.1.2.2.2.1, x3.1.2.2.2.2.1, w64 (x3.1.2.2.2.2.2.1 + 1), ()), ())
 else
 xepactref03_first x3.1.2.2.2.2.2.1 (fun r5 =>
 lp (Lepactref03_Date_1 xepactref03_days K k2) ((x3.1.2.1, x3.1.2.2.1, x3.1.2.2.2.1, x3.1.2.2.2.2.1, x3.1.2.2.2.2.2.1, w64 (x3.1.1 - r5), 1, ()), ()))))
def Lepactref03_Date_0p : Lp := ⟨125, [.trim 125], wpT58, .nil, 0⟩
def Yepactref03_Date (xepactref03_first : Tepactref03_first) (xepactref03_days : Tepactref03_days) (a0 : Int) (K : Int → Int → Int → Bool → Prop) : Prop :=
 (if decide (a0 < (-719162)) then
 K 0 0 0 false
 else
 (if decide (a0 > 2932896) then
 K 0 0 0 false
 else
 (lt (w64 (Int.tdiv (w64 (a0 - (-719162))) 366)) fun v1 =>
 lp (Lepactref03_Date_0 xepactref03_first xepactref03_days K) ((a0, 0, 0, 0, false, w64 (v1 + 1), ()), ()))))
def Xepactref03_Date : Tepactref03_Date := Yepactref03_Date Xepactref03_first Xepactref03_days
def Jepactref03_Date (X : Tepactref03_Date) : Inst := mkI 206 wpL22 .nil wpL59 .nil X
def Iepactref03_Date : Inst := Jepactref03_Date Xepactref03_Date
theorem Eepactref03_Date (xepactref03_first : Tepactref03_first) (xepactref03_days : Tepactref03_days) : EqF Tryz.prog 46 gives Tryz.f206 [Jepactref03_first xepactref03_first, Jepactref03_days xepactref03_days] [Lepactref03_Date_0p, Lepactref03_Date_1p] (Jepactref03_Date (Yepactref03_Date xepactref03_first xepactref03_days)) := fun x y K => by kernel_rfl
theorem Iepactref03_Date_ok : InstOk Tryz.prog G.1 Iepactref03_Date := iok (gives := gives) [Lepactref03_Date_0p, Lepactref03_Date_1p] (okCons Iepactref03_first_ok (okCons Iepactref03_days_ok okNil)) 46 follows Tryz.func206 (by kernel_rfl) (fun x => by kernel_rfl) (Eepactref03_Date Xepactref03_first Xepactref03_days)
abbrev Tepactref03_End : Type := Int → (Bool → Prop) → Prop
def Yepactref03_End (xepactref03_Date : Tepactref03_Date) (xepactref03_days : Tepactref03_days) (a0 : Int) (K : Bool → Prop) : Prop :=
 xepactref03_Date a0 (fun r1 r2 r3 r4 =>
 (if r4 then
 xepactref03_days r1 r2 (fun r5 =>
 K (r3 == r5))
 else
 K false))
def Xepactref03_End : Tepactref03_End := Yepactref03_End Xepactref03_Date Xepactref03_days
def Jepactref03_End (X : Tepactref03_End) : Inst := mkI 228 wpL22 .nil wpL10 .nil X
def Iepactref03_End : Inst := Jepactref03_End Xepactref03_End
theorem Eepactref03_End (xepactref03_Date : Tepactref03_Date) (xepactref03_days : Tepactref03_days) : EqF Tryz.prog 22 gives Tryz.f228 [Jepactref03_Date xepactref03_Date, Jepactref03_days xepactref03_days] [] (Jepactref03_End (Yepactref03_End xepactref03_Date xepactref03_days)) := fun x y K => by kernel_rfl
theorem Iepactref03_End_ok : InstOk Tryz.prog G.1 Iepactref03_End := iok (gives := gives) [] (okCons Iepactref03_Date_ok (okCons Iepactref03_days_ok okNil)) 22 follows Tryz.func228 (by kernel_rfl) (fun x => by kernel_rfl) (Eepactref03_End Xepactref03_Date Xepactref03_days)
abbrev Tepactref09_wrong : Type := wQ60 → Int → (Int → Prop) → Prop
def Yepactref09_wrong (xepactref03_End : Tepactref03_End) (a0 : wQ60) (a1 : Int) (K : Int → Prop) : Prop :=
 (if 0 ≤ a1 ∧ a1 < (↑(List.length a0.1) : Int) then
 (Eng.asInt IntKind.i64 (Eng.getC a0.1 (Int.toNat a1) (0 : Nat)) False fun n2 =>
 (Eng.asInt IntKind.i64 (Eng.getC a0.1 (Int.toNat a1) (1 : Nat)) False fun n3 =>
 (Eng.asBool (Eng.getC a0.1 (Int.toNat a1) (2 : Nat)) False fun b4 =>
 (if decide (a1 ≥ 200) then
 K 8
 else
 (if decide (n2 < 730) then
 K 9
 else
 (if decide (n2 ≥ 2932896) then
 K 9
 else
 xepactref03_End n2 (fun r5 =>
 (if (!r5) then
 K 5
 else
 (if (n3 != 1) then
 (if (n3 != (-1)) then
 K 6
 else
 (if decide (a1 > 0) then
 (if 0 ≤ w64 (a1 - 1) ∧ w64 (a1 - 1) < (↑(List.length a0.1) : Int) then
 (Eng.asInt IntKind.i64 (Eng.getC a0.1 (Int.toNat (w64 (a1 - 1))) (0 : Nat)) False fun n6 =>
 (if decide (n2 ≤ n6) then
 K 4
 else
 K 0))
 else
 False)
 else
 K 0))
 else
 (if decide (a1 > 0) then
 (if 0 ≤ w64 (a1 - 1) ∧ w64 (a1 - 1) < (↑(List.length a0.1) : Int) then
 (Eng.asInt IntKind.i64 (Eng.getC a0.1 (Int.toNat (w64 (a1 - 1))) (0 : Nat)) False fun n7 =>
 (if decide (n2 ≤ n7) then
 K 4
 else
 K 0))
 else
 False)
 else
 K 0))))))))))
 else
 False)
def Xepactref09_wrong : Tepactref09_wrong := Yepactref09_wrong Xepactref03_End
def Jepactref09_wrong (X : Tepactref09_wrong) : Inst := mkI 176 wpL61 .nil wpL22 .nil X
def Iepactref09_wrong : Inst := Jepactref09_wrong Xepactref09_wrong
theorem Eepactref09_wrong (xepactref03_End : Tepactref03_End) : EqF Tryz.prog 47 gives Tryz.f176 [Jepactref03_End xepactref03_End] [] (Jepactref09_wrong (Yepactref09_wrong xepactref03_End)) := fun x y K => by kernel_rfl
theorem Iepactref09_wrong_ok : InstOk Tryz.prog G.1 Iepactref09_wrong := iok (gives := gives) [] (okCons Iepactref03_End_ok okNil) 47 follows Tryz.func176 (by kernel_rfl) (fun x => by kernel_rfl) (Eepactref09_wrong Xepactref03_End)
abbrev Tepactref09_Check : Type := wQ60 → (Int → Int → Prop) → Prop
def Lepactref09_Check_0 (xepactref09_wrong : Tepactref09_wrong) (K : Int → Int → Prop) : (wQ62 → Prop) → wQ62 → Prop := fun k1 x2 =>
 (if decide (x2.1.2.2.2.2.1 < (↑(List.length x2.2.1.1) : Int)) then
 xepactref09_wrong x2.2.1 x2.1.2.2.2.2.1 (fun r3 =>
 (if (r3 != 0) then
 K x2.1.2.2.2.2.1 r3
 else
 (if 0 ≤ x2.1.2.2.2.2.1 ∧ x2.1.2.2.2.2.1 < (↑(List.length x2.2.1.1) : Int) then
 (Eng.asInt IntKind.i64 (Eng.getC x2.2.1.1 (Int.toNat x2.1.2.2.2.2.1) (0 : Nat)) False fun n4 =>
 (lt (w64 (86400 * w64 (n4 + 1))) fun v5 =>
 k1 (((), x2.1.2.1, x2.1.2.2.1, v5, w64 (x2.1.2.2.2.2.1 + 1), ()), x2.2)))
 else
 False)))
 else
 (if x2.2.1.2.1 then
 (if decide (x2.2.1.2.2.1 < x2.1.2.2.2.1) then
 K (↑(List.length x2.2.1.1) : Int) 9
 else
 (if decide (x2.2.1.2.2.1 > 253402300799) then
 K (↑(List.length x2.2.1.1) : Int) 9
 else
 (if (!x2.2.1.2.1) then
 (if (x2.2.1.2.2.1 != 0) then
 K (↑(List.length x2.2.1.1) : Int) 9
 else
 K (↑(List.length x2.2.1.1) : Int) 0)
 else
 K (↑(List.length x2.2.1.1) : Int) 0)))
 else
 (if (!x2.2.1.2.1) then
 (if (x2.2.1.2.2.1 != 0) then
 K (↑(List.length x2.2.1.1) : Int) 9
 else
 K (↑(List.length x2.2.1.1) : Int) 0)
 else
 K (↑(List.length x2.2.1.1) : Int) 0)))
def Lepactref09_Check_0p : Lp := ⟨62, [.trim 62], wpT63, wpH64, 0⟩
def Yepactref09_Check (xepactref09_wrong : Tepactref09_wrong) (a0 : wQ60) (K : Int → Int → Prop) : Prop :=
 lp (Lepactref09_Check_0 xepactref09_wrong K) (((), 0, 0, 63072000, 0, ()), a0, ())
def Xepactref09_Check : Tepactref09_Check := Yepactref09_Check Xepactref09_wrong
def Jepactref09_Check (X : Tepactref09_Check) : Inst := mkI 94 wpL65 .nil wpL23 .nil X
def Iepactref09_Check : Inst := Jepactref09_Check Xepactref09_Check
theorem Eepactref09_Check (xepactref09_wrong : Tepactref09_wrong) : EqF Tryz.prog 58 gives Tryz.f94 [Jepactref09_wrong xepactref09_wrong] [Lepactref09_Check_0p] (Jepactref09_Check (Yepactref09_Check xepactref09_wrong)) := fun x y K => by kernel_rfl
theorem Iepactref09_Check_ok : InstOk Tryz.prog G.1 Iepactref09_Check := iok (gives := gives) [Lepactref09_Check_0p] (okCons Iepactref09_wrong_ok okNil) 58 follows Tryz.func94 (by kernel_rfl) (fun x => by kernel_rfl) (Eepactref09_Check Xepactref09_wrong)
abbrev Tepactref09_Right : Type := wQ60 → (Bool → Prop) → Prop
def Yepactref09_Right (xepactref09_Check : Tepactref09_Check) (a0 : wQ60) (K : Bool → Prop) : Prop :=
 xepactref09_Check a0 (fun r1 r2 =>
 K (r2 == 0))
def Xepactref09_Right : Tepactref09_Right := Yepactref09_Right Xepactref09_Check
def Jepactref09_Right (X : Tepactref09_Right) : Inst := mkI 31 wpL65 .nil wpL10 .nil X
def Iepactref09_Right : Inst := Jepactref09_Right Xepactref09_Right
theorem Eepactref09_Right (xepactref09_Check : Tepactref09_Check) : EqF Tryz.prog 12 gives Tryz.f31 [Jepactref09_Check xepactref09_Check] [] (Jepactref09_Right (Yepactref09_Right xepactref09_Check)) := fun x y K => by kernel_rfl
theorem Iepactref09_Right_ok : InstOk Tryz.prog G.1 Iepactref09_Right := iok (gives := gives) [] (okCons Iepactref09_Check_ok okNil) 12 follows Tryz.func31 (by kernel_rfl) (fun x => by kernel_rfl) (Eepactref09_Right Xepactref09_Check)
abbrev Tepactref16_Copy : Type := wQ0 → (wQ66 → (List Eng.V) → Bool → Bool → (List Eng.V) → Bool → Bool → (List Eng.V) → Bool → Bool → Prop) → Prop
def Yepactref16_Copy (a0 : wQ0) (K : wQ66 → (List Eng.V) → Bool → Bool → (List Eng.V) → Bool → Bool → (List Eng.V) → Bool → Bool → Prop) : Prop :=
 (if Eng.roomOk ((0 : Nat) + List.length a0.1) (32 : Nat) then
 (if Eng.roomOk ((0 : Nat) + List.length a0.2.1) (16 : Nat) then
 (if Eng.roomOk ((0 : Nat) + List.length a0.2.2.1) (16 : Nat) then
 K ((), (), (), a0.2.2.2) ([] ++ a0.1) true false ([] ++ a0.2.1) true false ([] ++ a0.2.2.1) true false
 else
 False)
 else
 False)
 else
 False)
def Xepactref16_Copy : Tepactref16_Copy := Yepactref16_Copy
def Jepactref16_Copy (X : Tepactref16_Copy) : Inst := mkI 83 wpL4 .nil wpL67 wpH68 X
def Iepactref16_Copy : Inst := Jepactref16_Copy Xepactref16_Copy
theorem Eepactref16_Copy : EqF Tryz.prog 19 gives Tryz.f83 [] [] (Jepactref16_Copy (Yepactref16_Copy)) := fun x y K => by kernel_rfl
theorem Iepactref16_Copy_ok : InstOk Tryz.prog G.1 Iepactref16_Copy := iok (gives := gives) [] okNil 19 follows Tryz.func83 (by kernel_rfl) (fun x => by kernel_rfl) (Eepactref16_Copy)
abbrev Tepactref19_Index : Type := wQ0 → Int → (Int → Prop) → Prop
def Lepactref19_Index_0 (K : Int → Prop) : (wQ69 → Prop) → wQ69 → Prop := fun k2 x3 =>
 (if decide (x3.1.2.2.2.2.1 < (↑(List.length x3.2.1.2.1) : Int)) then
 (if 0 ≤ x3.1.2.2.2.2.1 ∧ x3.1.2.2.2.2.1 < (↑(List.length x3.2.1.2.1) : Int) then
 (Eng.asInt IntKind.i64 (Eng.getC x3.2.1.2.1 (Int.toNat x3.1.2.2.2.2.1) (0 : Nat)) False fun n4 =>
 (if decide (n4 ≤ x3.1.1) then
 k2 ((x3.1.1, (), x3.1.2.2.1, x3.1.2.2.2.2.1, w64 (x3.1.2.2.2.2.1 + 1), ()), x3.2)
 else
 k2 ((x3.1.1, (), x3.1.2.2.1, x3.1.2.2.2.1, w64 (x3.1.2.2.2.2.1 + 1), ()), x3.2)))
 else
 False)
 else
 K x3.1.2.2.2.1)
def Lepactref19_Index_0p : Lp := ⟨118, [.trim 118], wpT70, wpH71, 0⟩
def Yepactref19_Index (a0 : wQ0) (a1 : Int) (K : Int → Prop) : Prop :=
 lp (Lepactref19_Index_0 K) ((a1, (), 0, (-1), 0, ()), a0, ())
def Xepactref19_Index : Tepactref19_Index := Yepactref19_Index
def Jepactref19_Index (X : Tepactref19_Index) : Inst := mkI 74 wpL72 .nil wpL22 .nil X
def Iepactref19_Index : Inst := Jepactref19_Index Xepactref19_Index
theorem Eepactref19_Index : EqF Tryz.prog 24 gives Tryz.f74 [] [Lepactref19_Index_0p] (Jepactref19_Index (Yepactref19_Index)) := fun x y K => by kernel_rfl
theorem Iepactref19_Index_ok : InstOk Tryz.prog G.1 Iepactref19_Index := iok (gives := gives) [Lepactref19_Index_0p] okNil 24 follows Tryz.func74 (by kernel_rfl) (fun x => by kernel_rfl) (Eepactref19_Index)
abbrev Tepactref12_Sum : Type := (List Eng.V) → Int → (Int → Prop) → Prop
def Lepactref12_Sum_0 (xepactref12_leaps : Tepactref12_leaps) (K : Int → Prop) : (wQ73 → Prop) → wQ73 → Prop := fun k2 x3 =>
 xepactref12_leaps x3.1.1 (fun r4 =>
 (if decide (x3.1.2.2.2.2.1 < r4) then
 (if 0 ≤ x3.1.2.2.2.2.1 ∧ x3.1.2.2.2.2.1 < (↑(List.length x3.1.1) : Int) then
 (Eng.asInt IntKind.i64 (Eng.getC x3.1.1 (Int.toNat x3.1.2.2.2.2.1) (0 : Nat)) False fun n5 =>
 (if decide (n5 ≤ x3.1.2.1) then
 (if 0 ≤ x3.1.2.2.2.2.1 ∧ x3.1.2.2.2.2.1 < (↑(List.length x3.1.1) : Int) then
 (Eng.asInt IntKind.i64 (Eng.getC x3.1.1 (Int.toNat x3.1.2.2.2.2.1) (1 : Nat)) False fun n6 =>
 k2 ((x3.1.1, x3.1.2.1, x3.1.2.2.1, n6, w64 (x3.1.2.2.2.2.1 + 1), ()), ()))
 else
 False)
 else
 k2 ((x3.1.1, x3.1.2.1, x3.1.2.2.1, x3.1.2.2.2.1, w64 (x3.1.2.2.2.2.1 + 1), ()), ())))
 else
 False)
 else
 K x3.1.2.2.2.1))
def Lepactref12_Sum_0p : Lp := ⟨115, [.trim 115], wpT74, .nil, 0⟩
def Yepactref12_Sum (xepactref12_leaps : Tepactref12_leaps) (a0 : (List Eng.V)) (a1 : Int) (K : Int → Prop) : Prop :=
 lp (Lepactref12_Sum_0 xepactref12_leaps K) ((a0, a1, 0, 0, 0, ()), ())
def Xepactref12_Sum : Tepactref12_Sum := Yepactref12_Sum Xepactref12_leaps
def Jepactref12_Sum (X : Tepactref12_Sum) : Inst := mkI 89 wpL21 .nil wpL22 .nil X
def Iepactref12_Sum : Inst := Jepactref12_Sum Xepactref12_Sum
theorem Eepactref12_Sum (xepactref12_leaps : Tepactref12_leaps) : EqF Tryz.prog 26 gives Tryz.f89 [Jepactref12_leaps xepactref12_leaps] [Lepactref12_Sum_0p] (Jepactref12_Sum (Yepactref12_Sum xepactref12_leaps)) := fun x y K => by kernel_rfl
theorem Iepactref12_Sum_ok : InstOk Tryz.prog G.1 Iepactref12_Sum := iok (gives := gives) [Lepactref12_Sum_0p] (okCons Iepactref12_leaps_ok okNil) 26 follows Tryz.func89 (by kernel_rfl) (fun x => by kernel_rfl) (Eepactref12_Sum Xepactref12_leaps)
abbrev Tepactref19_Posix : Type := wQ0 → Int → (Int → Prop) → Prop
def Yepactref19_Posix (xepactref12_Sum : Tepactref12_Sum) (a0 : wQ0) (a1 : Int) (K : Int → Prop) : Prop :=
 xepactref12_Sum a0.2.2.1 a1 (fun r2 =>
 K (w64 (a1 - r2)))
def Xepactref19_Posix : Tepactref19_Posix := Yepactref19_Posix Xepactref12_Sum
def Jepactref19_Posix (X : Tepactref19_Posix) : Inst := mkI 75 wpL72 .nil wpL22 .nil X
def Iepactref19_Posix : Inst := Jepactref19_Posix Xepactref19_Posix
theorem Eepactref19_Posix (xepactref12_Sum : Tepactref12_Sum) : EqF Tryz.prog 11 gives Tryz.f75 [Jepactref12_Sum xepactref12_Sum] [] (Jepactref19_Posix (Yepactref19_Posix xepactref12_Sum)) := fun x y K => by kernel_rfl
theorem Iepactref19_Posix_ok : InstOk Tryz.prog G.1 Iepactref19_Posix := iok (gives := gives) [] (okCons Iepactref12_Sum_ok okNil) 11 follows Tryz.func75 (by kernel_rfl) (fun x => by kernel_rfl) (Eepactref19_Posix Xepactref12_Sum)
abbrev Tepactref01_Add : Type := Int → Int → (Int → Bool → Prop) → Prop
def Yepactref01_Add (a0 : Int) (a1 : Int) (K : Int → Bool → Prop) : Prop :=
 (if decide (a1 > 0) then
 (if decide (a0 > w64 (9223372036854775807 - a1)) then
 K 0 false
 else
 (if decide (a1 < 0) then
 (if decide (a0 < w64 ((-9223372036854775808) - a1)) then
 K 0 false
 else
 K (w64 (a0 + a1)) true)
 else
 K (w64 (a0 + a1)) true))
 else
 (if decide (a1 < 0) then
 (if decide (a0 < w64 ((-9223372036854775808) - a1)) then
 K 0 false
 else
 K (w64 (a0 + a1)) true)
 else
 K (w64 (a0 + a1)) true))
def Xepactref01_Add : Tepactref01_Add := Yepactref01_Add
def Jepactref01_Add (X : Tepactref01_Add) : Inst := mkI 98 wpL23 .nil wpL24 .nil X
def Iepactref01_Add : Inst := Jepactref01_Add Xepactref01_Add
theorem Eepactref01_Add : EqF Tryz.prog 27 gives Tryz.f98 [] [] (Jepactref01_Add (Yepactref01_Add)) := fun x y K => by kernel_rfl
theorem Iepactref01_Add_ok : InstOk Tryz.prog G.1 Iepactref01_Add := iok (gives := gives) [] okNil 27 follows Tryz.func98 (by kernel_rfl) (fun x => by kernel_rfl) (Eepactref01_Add)
abbrev Tepactref01_Div : Type := Int → Int → (Int → Int → Bool → Prop) → Prop
def Yepactref01_Div (a0 : Int) (a1 : Int) (K : Int → Int → Bool → Prop) : Prop :=
 (if decide (a1 < 1) then
 K 0 0 false
 else
 (if a1 = 0 then
 False
 else
 (if a1 = 0 then
 False
 else
 (if decide (Int.tmod a0 a1 < 0) then
 (lt (w64 (w64 (Int.tdiv a0 a1) - 1)) fun v2 =>
 K v2 (w64 (Int.tmod a0 a1 + a1)) true)
 else
 K (w64 (Int.tdiv a0 a1)) (Int.tmod a0 a1) true))))
def Xepactref01_Div : Tepactref01_Div := Yepactref01_Div
def Jepactref01_Div (X : Tepactref01_Div) : Inst := mkI 201 wpL23 .nil wpL75 .nil X
def Iepactref01_Div : Inst := Jepactref01_Div Xepactref01_Div
theorem Eepactref01_Div : EqF Tryz.prog 26 gives Tryz.f201 [] [] (Jepactref01_Div (Yepactref01_Div)) := fun x y K => by kernel_rfl
theorem Iepactref01_Div_ok : InstOk Tryz.prog G.1 Iepactref01_Div := iok (gives := gives) [] okNil 26 follows Tryz.func201 (by kernel_rfl) (fun x => by kernel_rfl) (Eepactref01_Div)
abbrev Tepactref03_Last : Type := Int → Int → (Int → Bool → Prop) → Prop
def Yepactref03_Last (xepactref03_days : Tepactref03_days) (a0 : Int) (a1 : Int) (K : Int → Bool → Prop) : Prop :=
 (if decide (a0 < 1) then
 K 0 false
 else
 (if decide (a0 > 9999) then
 K 0 false
 else
 (if decide (a1 < 1) then
 K 0 false
 else
 (if decide (a1 > 12) then
 K 0 false
 else
 xepactref03_days a0 a1 (fun r2 =>
 K r2 true)))))
def Xepactref03_Last : Tepactref03_Last := Yepactref03_Last Xepactref03_days
def Jepactref03_Last (X : Tepactref03_Last) : Inst := mkI 210 wpL23 .nil wpL24 .nil X
def Iepactref03_Last : Inst := Jepactref03_Last Xepactref03_Last
theorem Eepactref03_Last (xepactref03_days : Tepactref03_days) : EqF Tryz.prog 23 gives Tryz.f210 [Jepactref03_days xepactref03_days] [] (Jepactref03_Last (Yepactref03_Last xepactref03_days)) := fun x y K => by kernel_rfl
theorem Iepactref03_Last_ok : InstOk Tryz.prog G.1 Iepactref03_Last := iok (gives := gives) [] (okCons Iepactref03_days_ok okNil) 23 follows Tryz.func210 (by kernel_rfl) (fun x => by kernel_rfl) (Eepactref03_Last Xepactref03_days)
abbrev Tepactref03_Number : Type := Int → Int → Int → (Int → Bool → Prop) → Prop
def Lepactref03_Number_0 (xepactref03_days : Tepactref03_days) (K : Int → Bool → Prop) : (wQ76 → Prop) → wQ76 → Prop := fun k7 x8 =>
 (if decide (x8.1.2.2.2.2.2.1 < x8.1.2.1) then
 xepactref03_days x8.1.1 x8.1.2.2.2.2.2.1 (fun r9 =>
 k7 ((x8.1.1, x8.1.2.1, x8.1.2.2.1, x8.1.2.2.2.1, w64 (x8.1.2.2.2.2.1 + r9), w64 (x8.1.2.2.2.2.2.1 + 1), ()), ()))
 else
 K x8.1.2.2.2.2.1 true)
def Lepactref03_Number_0p : Lp := ⟨3267, [.trim 3267], wpT77, .nil, 0⟩
def Yepactref03_Number (xepactref03_Last : Tepactref03_Last) (xepactref03_first : Tepactref03_first) (xepactref03_days : Tepactref03_days) (a0 : Int) (a1 : Int) (a2 : Int) (K : Int → Bool → Prop) : Prop :=
 xepactref03_Last a0 a1 (fun r3 r4 =>
 (if (!r4) then
 K 0 false
 else
 (if decide (a2 < 1) then
 K 0 false
 else
 (if decide (a2 > r3) then
 K 0 false
 else
 xepactref03_first a0 (fun r5 =>
 (lt (w64 (w64 (r5 + a2) - 1)) fun v6 =>
 lp (Lepactref03_Number_0 xepactref03_days K) ((a0, a1, 0, false, v6, 1, ()), ())))))))
def Xepactref03_Number : Tepactref03_Number := Yepactref03_Number Xepactref03_Last Xepactref03_first Xepactref03_days
def Jepactref03_Number (X : Tepactref03_Number) : Inst := mkI 143 wpL78 .nil wpL24 .nil X
def Iepactref03_Number : Inst := Jepactref03_Number Xepactref03_Number
theorem Eepactref03_Number (xepactref03_Last : Tepactref03_Last) (xepactref03_first : Tepactref03_first) (xepactref03_days : Tepactref03_days) : EqF Tryz.prog 45 gives Tryz.f143 [Jepactref03_Last xepactref03_Last, Jepactref03_first xepactref03_first, Jepactref03_days xepactref03_days] [Lepactref03_Number_0p] (Jepactref03_Number (Yepactref03_Number xepactref03_Last xepactref03_first xepactref03_days)) := fun x y K => by kernel_rfl
theorem Iepactref03_Number_ok : InstOk Tryz.prog G.1 Iepactref03_Number := iok (gives := gives) [Lepactref03_Number_0p] (okCons Iepactref03_Last_ok (okCons Iepactref03_first_ok (okCons Iepactref03_days_ok okNil))) 45 follows Tryz.func143 (by kernel_rfl) (fun x => by kernel_rfl) (Eepactref03_Number Xepactref03_Last Xepactref03_first Xepactref03_days)
abbrev Tepactref03_Week : Type := Int → (Int → Prop) → Prop
def Yepactref03_Week (a0 : Int) (K : Int → Prop) : Prop :=
 (lt (Int.tmod (w64 (Int.tmod a0 (7 :Int) + 11)) 7) fun v1 =>
 K v1)
def Xepactref03_Week : Tepactref03_Week := Yepactref03_Week
def Jepactref03_Week (X : Tepactref03_Week) : Inst := mkI 298 wpL22 .nil wpL22 .nil X
def Iepactref03_Week : Inst := Jepactref03_Week Xepactref03_Week
theorem Eepactref03_Week : EqF Tryz.prog 7 gives Tryz.f298 [] [] (Jepactref03_Week (Yepactref03_Week)) := fun x y K => by kernel_rfl
theorem Iepactref03_Week_ok : InstOk Tryz.prog G.1 Iepactref03_Week := iok (gives := gives) [] okNil 7 follows Tryz.func298 (by kernel_rfl) (fun x => by kernel_rfl) (Eepactref03_Week)
abbrev Tepactref17_Day : Type := wQ41 → Int → (Int → Bool → Prop) → Prop
def Lepactref17_Day_0 (xepactref03_Week : Tepactref03_Week) (K : Int → Bool → Prop) : (wQ79 → Prop) → wQ79 → Prop := fun k11 x12 =>
 (if decide (x12.1.2.2.2.2.2.2.2.1 < w64 (x12.1.2.2.2.1 + x12.1.2.2.2.2.1)) then
 xepactref03_Week x12.1.2.2.2.2.2.2.2.1 (fun r13 =>
 (if (r13 == x12.2.1.2.2.2.1) then
 (if decide (x12.1.2.2.2.2.2.2.1 < x12.2.1.2.2.1) then
 k11 (((), x12.1.2.1, x12.1.2.2.1, x12.1.2.2.2.1, x12.1.2.2.2.2.1, x12.1.2.2.2.2.2.2.2.1, w64 (x12.1.2.2.2.2.2.2.1 + 1), w64 (x12.1.2.2.2.2.2.2.2.1 + 1), ()), x12.2)
 else
 k11 (((), x12.1.2.1, x12.1.2.2.1, x12.1.2.2.2.1, x12.1.2.2.2.2.1, x12.1.2.2.2.2.2.1, x12.1.2.2.2.2.2.2.1, w64 (x12.1.2.2.2.2.2.2.2.1 + 1), ()), x12.2))
 else
 k11 (((), x12.1.2.1, x12.1.2.2.1, x12.1.2.2.2.1, x12.1.2.2.2.2.1, x12.1.2.2.2.2.2.1, x12.1.2.2.2.2.2.2.1, w64 (x12.1.2.2.2.2.2.2.2.1 + 1), ()), x12.2)))
 else
 K x12.1.2.2.2.2.2.1 true)
def Lepactref17_Day_0p : Lp := ⟨59956, [.trim 59956], wpT80, wpH81, 0⟩
def Yepactref17_Day (xepactref03_Number : Tepactref03_Number) (xepactref17_Right : Tepactref17_Right) (xepactref03_Leap : Tepactref03_Leap) (xepactref03_Last : Tepactref03_Last) (xepactref03_Week : Tepactref03_Week) (a0 : wQ41) (a1 : Int) (K : Int → Bool → Prop) : Prop :=
 xepactref03_Number a1 1 1 (fun r2 r3 =>
 xepactref17_Right a0 (fun r4 =>
 (if (!r4) then
 K 0 false
 else
 (if (!r3) then
 K 0 false
 else
 (if (a0.1 == 1) then
 (lt (w64 (w64 (r2 + a0.2.1) - 1)) fun v5 =>
 (if decide (a0.2.1 ≥ 60) then
 xepactref03_Leap a1 (fun r6 =>
 (if r6 then
 K (w64 (v5 + 1)) true
 else
 K v5 true))
 else
 K v5 true))
 else
 (if (a0.1 == 2) then
 K (w64 (r2 + a0.2.1)) true
 else
 xepactref03_Number a1 a0.2.1 1 (fun r7 r8 =>
 xepactref03_Last a1 a0.2.1 (fun r9 r10 =>
 lp (Lepactref17_Day_0 xepactref03_Week K) (((), 0, false, r7, r9, (-1), 0, r7, ()), a0, ())))))))))
def Xepactref17_Day : Tepactref17_Day := Yepactref17_Day Xepactref03_Number Xepactref17_Right Xepactref03_Leap Xepactref03_Last Xepactref03_Week
def Jepactref17_Day (X : Tepactref17_Day) : Inst := mkI 282 wpL82 .nil wpL24 .nil X
def Iepactref17_Day : Inst := Jepactref17_Day Xepactref17_Day
theorem Eepactref17_Day (xepactref03_Number : Tepactref03_Number) (xepactref17_Right : Tepactref17_Right) (xepactref03_Leap : Tepactref03_Leap) (xepactref03_Last : Tepactref03_Last) (xepactref03_Week : Tepactref03_Week) : EqF Tryz.prog 90 gives Tryz.f282 [Jepactref03_Number xepactref03_Number, Jepactref17_Right xepactref17_Right, Jepactref03_Leap xepactref03_Leap, Jepactref03_Last xepactref03_Last, Jepactref03_Week xepactref03_Week] [Lepactref17_Day_0p] (Jepactref17_Day (Yepactref17_Day xepactref03_Number xepactref17_Right xepactref03_Leap xepactref03_Last xepactref03_Week)) := fun x y K => by kernel_rfl
theorem Iepactref17_Day_ok : InstOk Tryz.prog G.1 Iepactref17_Day := iok (gives := gives) [Lepactref17_Day_0p] (okCons Iepactref03_Number_ok (okCons Iepactref17_Right_ok (okCons Iepactref03_Leap_ok (okCons Iepactref03_Last_ok (okCons Iepactref03_Week_ok okNil))))) 90 follows Tryz.func282 (by kernel_rfl) (fun x => by kernel_rfl) (Eepactref17_Day Xepactref03_Number Xepactref17_Right Xepactref03_Leap Xepactref03_Last Xepactref03_Week)
abbrev Tepactref17_At : Type := wQ41 → Int → (Int → Bool → Prop) → Prop
def Yepactref17_At (xepactref17_Day : Tepactref17_Day) (a0 : wQ41) (a1 : Int) (K : Int → Bool → Prop) : Prop :=
 xepactref17_Day a0 a1 (fun r2 r3 =>
 (if (!r3) then
 K 0 false
 else
 (lt (w64 (w64 (86400 * r2) + a0.2.2.2.2.1)) fun v4 =>
 K v4 true)))
def Xepactref17_At : Tepactref17_At := Yepactref17_At Xepactref17_Day
def Jepactref17_At (X : Tepactref17_At) : Inst := mkI 254 wpL82 .nil wpL24 .nil X
def Iepactref17_At : Inst := Jepactref17_At Xepactref17_At
theorem Eepactref17_At (xepactref17_Day : Tepactref17_Day) : EqF Tryz.prog 21 gives Tryz.f254 [Jepactref17_Day xepactref17_Day] [] (Jepactref17_At (Yepactref17_At xepactref17_Day)) := fun x y K => by kernel_rfl
theorem Iepactref17_At_ok : InstOk Tryz.prog G.1 Iepactref17_At := iok (gives := gives) [] (okCons Iepactref17_Day_ok okNil) 21 follows Tryz.func254 (by kernel_rfl) (fun x => by kernel_rfl) (Eepactref17_At Xepactref17_Day)
abbrev Tepactref18_Span : Type := wQ43 → Int → (Int → Int → Bool → Prop) → Prop
def Yepactref18_Span (xepactref18_Right : Tepactref18_Right) (xepactref17_At : Tepactref17_At) (a0 : wQ43) (a1 : Int) (K : Int → Int → Bool → Prop) : Prop :=
 xepactref18_Right a0 (fun r2 =>
 (if (!r2) then
 K 0 0 false
 else
 (if (!a0.2.2.2.2.2.2.1) then
 K 0 0 false
 else
 xepactref17_At (a0.2.2.2.2.2.2.2.1, a0.2.2.2.2.2.2.2.2.1, a0.2.2.2.2.2.2.2.2.2.1, a0.2.2.2.2.2.2.2.2.2.2.1, a0.2.2.2.2.2.2.2.2.2.2.2.1, ()) a1 (fun r3 r4 =>
 xepactref17_At a0.2.2.2.2.2.2.2.2.2.2.2.2 a1 (fun r5 r6 =>
 (if (!r4) then
 K 0 0 false
 else
 K (w64 (r3 - a0.1)) (w64 (r5 - a0.2.2.2.1)) true))))))
def Xepactref18_Span : Tepactref18_Span := Yepactref18_Span Xepactref18_Right Xepactref17_At
def Jepactref18_Span (X : Tepactref18_Span) : Inst := mkI 216 wpL83 .nil wpL75 .nil X
def Iepactref18_Span : Inst := Jepactref18_Span Xepactref18_Span
theorem Eepactref18_Span (xepactref18_Right : Tepactref18_Right) (xepactref17_At : Tepactref17_At) : EqF Tryz.prog 45 gives Tryz.f216 [Jepactref18_Right xepactref18_Right, Jepactref17_At xepactref17_At] [] (Jepactref18_Span (Yepactref18_Span xepactref18_Right xepactref17_At)) := fun x y K => by kernel_rfl
theorem Iepactref18_Span_ok : InstOk Tryz.prog G.1 Iepactref18_Span := iok (gives := gives) [] (okCons Iepactref18_Right_ok (okCons Iepactref17_At_ok okNil)) 45 follows Tryz.func216 (by kernel_rfl) (fun x => by kernel_rfl) (Eepactref18_Span Xepactref18_Right Xepactref17_At)
abbrev Tepactref18_Lookup : Type := wQ43 → Int → (wQ39 → Prop) → Prop
def Yepactref18_Lookup (xepactref01_Add : Tepactref01_Add) (xepactref01_Div : Tepactref01_Div) (xepactref03_Date : Tepactref03_Date) (xepactref18_Span : Tepactref18_Span) (a0 : wQ43) (a1 : Int) (K : wQ39 → Prop) : Prop :=
 xepactref01_Add a1 a0.1 (fun r2 r3 =>
 xepactref01_Div r2 86400 (fun r4 r5 r6 =>
 xepactref03_Date r4 (fun r7 r8 r9 r10 =>
 xepactref18_Span a0 r7 (fun r11 r12 r13 =>
 (if (!r3) then
 K (a0.1, a0.2.1, a0.2.2.1, ())
 else
 (if (!r10) then
 K (a0.1, a0.2.1, a0.2.2.1, ())
 else
 (if (!r13) then
 K (a0.1, a0.2.1, a0.2.2.1, ())
 else
 (if decide (r11 < r12) then
 (if decide (a1 ≥ r11) then
 (if decide (a1 < r12) then
 K (a0.2.2.2.1, a0.2.2.2.2.1, a0.2.2.2.2.2.1, ())
 else
 (if decide (r11 ≥ r12) then
 (if decide (a1 ≥ r11) then
 K (a0.2.2.2.1, a0.2.2.2.2.1, a0.2.2.2.2.2.1, ())
 else
 (if decide (a1 < r12) then
 K (a0.2.2.2.1, a0.2.2.2.2.1, a0.2.2.2.2.2.1, ())
 else
 K (a0.1, a0.2.1, a0.2.2.1, ())))
 else
 K (a0.1, a0.2.1, a0.2.2.1, ())))
 else
 (if decide (r11 ≥ r12) then
 (if decide (a1 ≥ r11) then
 K (a0.2.2.2.1, a0.2.2.2.2.1, a0.2.2.2.2.2.1, ())
 else
 (if decide (a1 < r12) then
 K (a0.2.2.2.1, a0.2.2.2.2.1, a0.2.2.2.2.2.1, ())
 else
 K (a0.1, a0.2.1, a0.2.2.1, ())))
 else
 K (a0.1, a0.2.1, a0.2.2.1, ())))
 else
 (if decide (r11 ≥ r12) then
 (if decide (a1 ≥ r11) then
 K (a0.2.2.2.1, a0.2.2.2.2.1, a0.2.2.2.2.2.1, ())
 else
 (if decide (a1 < r12) then
 K (a0.2.2.2.1, a0.2.2.2.2.1, a0.2.2.2.2.2.1, ())
 else
 K (a0.1, a0.2.1, a0.2.2.1, ())))
 else
 K (a0.1, a0.2.1, a0.2.2.1, ()))))))))))
def Xepactref18_Lookup : Tepactref18_Lookup := Yepactref18_Lookup Xepactref01_Add Xepactref01_Div Xepactref03_Date Xepactref18_Span
def Jepactref18_Lookup (X : Tepactref18_Lookup) : Inst := mkI 158 wpL83 .nil wpL84 .nil X
def Iepactref18_Lookup : Inst := Jepactref18_Lookup Xepactref18_Lookup
theorem Eepactref18_Lookup (xepactref01_Add : Tepactref01_Add) (xepactref01_Div : Tepactref01_Div) (xepactref03_Date : Tepactref03_Date) (xepactref18_Span : Tepactref18_Span) : EqF Tryz.prog 89 gives Tryz.f158 [Jepactref01_Add xepactref01_Add, Jepactref01_Div xepactref01_Div, Jepactref03_Date xepactref03_Date, Jepactref18_Span xepactref18_Span] [] (Jepactref18_Lookup (Yepactref18_Lookup xepactref01_Add xepactref01_Div xepactref03_Date xepactref18_Span)) := fun x y K => by kernel_rfl
theorem Iepactref18_Lookup_ok : InstOk Tryz.prog G.1 Iepactref18_Lookup := iok (gives := gives) [] (okCons Iepactref01_Add_ok (okCons Iepactref01_Div_ok (okCons Iepactref03_Date_ok (okCons Iepactref18_Span_ok okNil)))) 89 follows Tryz.func158 (by kernel_rfl) (fun x => by kernel_rfl) (Eepactref18_Lookup Xepactref01_Add Xepactref01_Div Xepactref03_Date Xepactref18_Span)
abbrev Tepactref19_Lookup : Type := wQ0 → Int → (wQ39 → Prop) → Prop
def Yepactref19_Lookup (xepactref19_Index : Tepactref19_Index) (xepactref18_Parse : Tepactref18_Parse) (xepactref19_Posix : Tepactref19_Posix) (xepactref18_Lookup : Tepactref18_Lookup) (a0 : wQ0) (a1 : Int) (K : wQ39 → Prop) : Prop :=
 xepactref19_Index a0 a1 (fun r2 =>
 (if (!ByteArray.toList a0.2.2.2.1 == ByteArray.toList (ByteArray.mk #[])) then
 (if (r2 == w64 ((↑(List.length a0.2.1) : Int) - 1)) then
 xepactref18_Parse a0.2.2.2.1 (fun r3 r4 =>
 xepactref19_Posix a0 a1 (fun r5 =>
 xepactref18_Lookup r3 r5 (fun r6 =>
 K r6)))
 else
 (if decide (r2 < 0) then
 (if (0 :Int) ≤ 0 ∧ 0 < (↑(List.length a0.1) : Int) then
 (Eng.asInt IntKind.i64 (Eng.getC a0.1 (0 : Nat) (0 : Nat)) False fun n7 =>
 (Eng.asBool (Eng.getC a0.1 (0 : Nat) (1 : Nat)) False fun b8 =>
 (Eng.asStr (Eng.getC a0.1 (0 : Nat) (2 : Nat)) False fun t9 =>
 K (n7, b8, t9, ()))))
 else
 False)
 else
 (if 0 ≤ r2 ∧ r2 < (↑(List.length a0.2.1) : Int) then
 (Eng.asInt IntKind.i64 (Eng.getC a0.2.1 (Int.toNat r2) (1 : Nat)) False fun n10 =>
 (if 0 ≤ n10 ∧ n10 < (↑(List.length a0.1) : Int) then
 (Eng.asInt IntKind.i64 (Eng.getC a0.1 (Int.toNat n10) (0 : Nat)) False fun n11 =>
 (Eng.asBool (Eng.getC a0.1 (Int.toNat n10) (1 : Nat)) False fun b12 =>
 (Eng.asStr (Eng.getC a0.1 (Int.toNat n10) (2 : Nat)) False fun t13 =>
 K (n11, b12, t13, ()))))
 else
 False))
 else
 False)))
 else
 (if decide (r2 < 0) then
 (if (0 :Int) ≤ 0 ∧ 0 < (↑(List.length a0.1) : Int) then
 (Eng.asInt IntKind.i64 (Eng.getC a0.1 (0 : Nat) (0 : Nat)) False fun n14 =>
 (Eng.asBool (Eng.getC a0.1 (0 : Nat) (1 : Nat)) False fun b15 =>
 (Eng.asStr (Eng.getC a0.1 (0 : Nat) (2 : Nat)) False fun t16 =>
 K (n14, b15, t16, ()))))
 else
 False)
 else
 (if 0 ≤ r2 ∧ r2 < (↑(List.length a0.2.1) : Int) then
 (Eng.asInt IntKind.i64 (Eng.getC a0.2.1 (Int.toNat r2) (1 : Nat)) False fun n17 =>
 (if 0 ≤ n17 ∧ n17 < (↑(List.length a0.1) : Int) then
 (Eng.asInt IntKind.i64 (Eng.getC a0.1 (Int.toNat n17) (0 : Nat)) False fun n18 =>
 (Eng.asBool (Eng.getC a0.1 (Int.toNat n17) (1 : Nat)) False fun b19 =>
 (Eng.asStr (Eng.getC a0.1 (Int.toNat n17) (2 : Nat)) False fun t20 =>
 K (n18, b19, t20, ()))))
 else
 False))
 else
 False))))
def Xepactref19_Lookup : Tepactref19_Lookup := Yepactref19_Lookup Xepactref19_Index Xepactref18_Parse Xepactref19_Posix Xepactref18_Lookup
def Jepactref19_Lookup (X : Tepactref19_Lookup) : Inst := mkI 76 wpL72 .nil wpL84 .nil X
def Iepactref19_Lookup : Inst := Jepactref19_Lookup Xepactref19_Lookup
theorem Eepactref19_Lookup (xepactref19_Index : Tepactref19_Index) (xepactref18_Parse : Tepactref18_Parse) (xepactref19_Posix : Tepactref19_Posix) (xepactref18_Lookup : Tepactref18_Lookup) : EqF Tryz.prog 49 gives Tryz.f76 [Jepactref19_Index xepactref19_Index, Jepactref18_Parse xepactref18_Parse, Jepactref19_Posix xepactref19_Posix, Jepactref18_Lookup xepactref18_Lookup] [] (Jepactref19_Lookup (Yepactref19_Lookup xepactref19_Index xepactref18_Parse xepactref19_Posix xepactref18_Lookup)) := fun x y K => by kernel_rfl
theorem Iepactref19_Lookup_ok : InstOk Tryz.prog G.1 Iepactref19_Lookup := iok (gives := gives) [] (okCons Iepactref19_Index_ok (okCons Iepactref18_Parse_ok (okCons Iepactref19_Posix_ok (okCons Iepactref18_Lookup_ok okNil)))) 49 follows Tryz.func76 (by kernel_rfl) (fun x => by kernel_rfl) (Eepactref19_Lookup Xepactref19_Index Xepactref18_Parse Xepactref19_Posix Xepactref18_Lookup)
abbrev Tepactref21_Instant : Type := wQ0 → wQ85 → (Int → Prop) → Prop
def Yepactref21_Instant (xepactref19_Lookup : Tepactref19_Lookup) (a0 : wQ0) (a1 : wQ85) (K : Int → Prop) : Prop :=
 (lt (w64 (86400 * w64 (a1.1 + 1))) fun v2 =>
 (if a1.2.2.1 then
 xepactref19_Lookup a0 (w64 (v2 - 1)) (fun r3 =>
 K (w64 (v2 - r3.1)))
 else
 K v2))
def Xepactref21_Instant : Tepactref21_Instant := Yepactref21_Instant Xepactref19_Lookup
def Jepactref21_Instant (X : Tepactref21_Instant) : Inst := mkI 37 wpL86 .nil wpL22 .nil X
def Iepactref21_Instant : Inst := Jepactref21_Instant Xepactref21_Instant
theorem Eepactref21_Instant (xepactref19_Lookup : Tepactref19_Lookup) : EqF Tryz.prog 20 gives Tryz.f37 [Jepactref19_Lookup xepactref19_Lookup] [] (Jepactref21_Instant (Yepactref21_Instant xepactref19_Lookup)) := fun x y K => by kernel_rfl
theorem Iepactref21_Instant_ok : InstOk Tryz.prog G.1 Iepactref21_Instant := iok (gives := gives) [] (okCons Iepactref19_Lookup_ok okNil) 20 follows Tryz.func37 (by kernel_rfl) (fun x => by kernel_rfl) (Eepactref21_Instant Xepactref19_Lookup)
end Go.Proofs.YtenaflbcnkalbaaGreatDoor
end
section
set_option linter.unusedVariables false
set_option linter.unusedSimpArgs false
namespace Go.Proofs.YtenaflbcnkalbaaGreatDoor
open Go Go.Proofs.YtenaflbcnkalbaaGreatDoor.Eng
set_option maxRecDepth 100000
set_option maxHeartbeats 4000000
variable {G : Gs}
abbrev Tepactref21_Records : Type := wQ0 → wQ60 → (Int → (List Eng.V) → Bool → Bool → Prop) → Prop
def Lepactref21_Records_0 (xepactref21_Instant : Tepactref21_Instant) (xepactref12_Check : Tepactref12_Check) (K : Int → (List Eng.V) → Bool → Bool → Prop) : (wQ87 → Prop) → wQ87 → Prop := fun k2 x3 =>
 (if decide (x3.1.2.2.2.2.2.2.1 < (↑(List.length x3.2.2.1.1) : Int)) then
 (if 0 ≤ x3.1.2.2.2.2.2.2.1 ∧ x3.1.2.2.2.2.2.2.1 < (↑(List.length x3.2.2.1.1) : Int) then
 (Eng.asInt IntKind.i64 (Eng.getC x3.2.2.1.1 (Int.toNat x3.1.2.2.2.2.2.2.1) (0 : Nat)) False fun n4 =>
 (Eng.asInt IntKind.i64 (Eng.getC x3.2.2.1.1 (Int.toNat x3.1.2.2.2.2.2.2.1) (1 : Nat)) False fun n5 =>
 (Eng.asBool (Eng.getC x3.2.2.1.1 (Int.toNat x3.1.2.2.2.2.2.2.1) (2 : Nat)) False fun b6 =>
 xepactref21_Instant x3.2.1 (n4, n5, b6, ()) (fun r7 =>
 (if decide (n5 < 0) then
 (lt (w64 (w64 (r7 + x3.1.2.2.2.2.2.1) - 1)) fun v8 =>
 (if Eng.roomOk (List.length x3.2.2.2.1 + List.length [Eng.V.agg [Eng.V.c (Value.int IntKind.i64 v8), Eng.V.c (Value.int IntKind.i64 (w64 (x3.1.2.2.2.2.2.1 + n5)))]]) (16 : Nat) then
 (lt (x3.2.2.2.1 ++ [Eng.V.agg [Eng.V.c (Value.int IntKind.i64 v8), Eng.V.c (Value.int IntKind.i64 (w64 (x3.1.2.2.2.2.2.1 + n5)))]]) fun v9 =>
 k2 (((), (), (), x3.1.2.2.2.1, (), w64 (x3.1.2.2.2.2.2.1 + n5), w64 (x3.1.2.2.2.2.2.2.1 + 1), ()), x3.2.1, x3.2.2.1, v9, ()))
 else
 False))
 else
 (if Eng.roomOk (List.length x3.2.2.2.1 + List.length [Eng.V.agg [Eng.V.c (Value.int IntKind.i64 (w64 (r7 + x3.1.2.2.2.2.2.1))), Eng.V.c (Value.int IntKind.i64 (w64 (x3.1.2.2.2.2.2.1 + n5)))]]) (16 : Nat) then
 (lt (x3.2.2.2.1 ++ [Eng.V.agg [Eng.V.c (Value.int IntKind.i64 (w64 (r7 + x3.1.2.2.2.2.2.1))), Eng.V.c (Value.int IntKind.i64 (w64 (x3.1.2.2.2.2.2.1 + n5)))]]) fun v10 =>
 k2 (((), (), (), x3.1.2.2.2.1, (), w64 (x3.1.2.2.2.2.2.1 + n5), w64 (x3.1.2.2.2.2.2.2.1 + 1), ()), x3.2.1, x3.2.2.1, v10, ()))
 else
 False))))))
 else
 False)
 else
 (if x3.2.2.1.2.1 then
 (if Eng.roomOk (List.length x3.2.2.2.1 + List.length [Eng.V.agg [Eng.V.c (Value.int IntKind.i64 (w64 (x3.2.2.1.2.2.1 + x3.1.2.2.2.2.2.1))), Eng.V.c (Value.int IntKind.i64 x3.1.2.2.2.2.2.1)]]) (16 : Nat) then
 (lt (x3.2.2.2.1 ++ [Eng.V.agg [Eng.V.c (Value.int IntKind.i64 (w64 (x3.2.2.1.2.2.1 + x3.1.2.2.2.2.2.1))), Eng.V.c (Value.int IntKind.i64 x3.1.2.2.2.2.2.1)]]) fun v11 =>
 xepactref12_Check v11 (fun r12 r13 =>
 (if (r13 != 0) then
 K r13 [] true true
 else
 K 0 v11 true false)))
 else
 False)
 else
 xepactref12_Check x3.2.2.2.1 (fun r14 r15 =>
 (if (r15 != 0) then
 K r15 [] true true
 else
 K 0 x3.2.2.2.1 true false))))
def Lepactref21_Records_0p : Lp := ⟨508, [.trim 508, .fat 6 2 1104, .trim 508], wpT88, wpH89, 0⟩
def Yepactref21_Records (xepactref21_Instant : Tepactref21_Instant) (xepactref12_Check : Tepactref12_Check) (a0 : wQ0) (a1 : wQ60) (K : Int → (List Eng.V) → Bool → Bool → Prop) : Prop :=
 lp (Lepactref21_Records_0 xepactref21_Instant xepactref12_Check K) (((), (), (), 0, (), 0, 0, ()), a0, a1, [], ())
def Xepactref21_Records : Tepactref21_Records := Yepactref21_Records Xepactref21_Instant Xepactref12_Check
def Jepactref21_Records (X : Tepactref21_Records) : Inst := mkI 33 wpL90 .nil wpL91 wpH92 X
def Iepactref21_Records : Inst := Jepactref21_Records Xepactref21_Records
theorem Eepactref21_Records (xepactref21_Instant : Tepactref21_Instant) (xepactref12_Check : Tepactref12_Check) : EqF Tryz.prog 65 gives Tryz.f33 [Jepactref21_Instant xepactref21_Instant, Jepactref12_Check xepactref12_Check] [Lepactref21_Records_0p] (Jepactref21_Records (Yepactref21_Records xepactref21_Instant xepactref12_Check)) := fun x y K => by kernel_rfl
theorem Iepactref21_Records_ok : InstOk Tryz.prog G.1 Iepactref21_Records := iok (gives := gives) [Lepactref21_Records_0p] (okCons Iepactref21_Instant_ok (okCons Iepactref12_Check_ok okNil)) 65 follows Tryz.func33 (by kernel_rfl) (fun x => by kernel_rfl) (Eepactref21_Records Xepactref21_Instant Xepactref12_Check)
abbrev Tepactref21_Shift : Type := wQ0 → wQ60 → Int → (Int → Bool → Prop) → Prop
def Lepactref21_Shift_0 (xepactref21_Instant : Tepactref21_Instant) (xepactref01_Add : Tepactref01_Add) (K : Int → Bool → Prop) : (wQ93 → Prop) → wQ93 → Prop := fun k3 x4 =>
 (if decide (x4.1.2.2.2.2.2.2.1 < (↑(List.length x4.2.2.1.1) : Int)) then
 (if 0 ≤ x4.1.2.2.2.2.2.2.1 ∧ x4.1.2.2.2.2.2.2.1 < (↑(List.length x4.2.2.1.1) : Int) then
 (Eng.asInt IntKind.i64 (Eng.getC x4.2.2.1.1 (Int.toNat x4.1.2.2.2.2.2.2.1) (0 : Nat)) False fun n5 =>
 (Eng.asInt IntKind.i64 (Eng.getC x4.2.2.1.1 (Int.toNat x4.1.2.2.2.2.2.2.1) (1 : Nat)) False fun n6 =>
 (Eng.asBool (Eng.getC x4.2.2.1.1 (Int.toNat x4.1.2.2.2.2.2.2.1) (2 : Nat)) False fun b7 =>
 xepactref21_Instant x4.2.1 (n5, n6, b7, ()) (fun r8 =>
 (if decide (r8 ≤ x4.1.1) then
 (if 0 ≤ x4.1.2.2.2.2.2.2.1 ∧ x4.1.2.2.2.2.2.2.1 < (↑(List.length x4.2.2.1.1) : Int) then
 (Eng.asInt IntKind.i64 (Eng.getC x4.2.2.1.1 (Int.toNat x4.1.2.2.2.2.2.2.1) (1 : Nat)) False fun n9 =>
 k3 ((x4.1.1, (), (), x4.1.2.2.2.1, x4.1.2.2.2.2.1, w64 (x4.1.2.2.2.2.2.1 + n9), w64 (x4.1.2.2.2.2.2.2.1 + 1), ()), x4.2))
 else
 False)
 else
 k3 ((x4.1.1, (), (), x4.1.2.2.2.1, x4.1.2.2.2.2.1, x4.1.2.2.2.2.2.1, w64 (x4.1.2.2.2.2.2.2.1 + 1), ()), x4.2))))))
 else
 False)
 else
 xepactref01_Add x4.1.1 x4.1.2.2.2.2.2.1 (fun r10 r11 =>
 K r10 r11))
def Lepactref21_Shift_0p : Lp := ⟨988, [.trim 988], wpT94, wpH95, 0⟩
def Yepactref21_Shift (xepactref21_Instant : Tepactref21_Instant) (xepactref01_Add : Tepactref01_Add) (a0 : wQ0) (a1 : wQ60) (a2 : Int) (K : Int → Bool → Prop) : Prop :=
 lp (Lepactref21_Shift_0 xepactref21_Instant xepactref01_Add K) ((a2, (), (), 0, false, 0, 0, ()), a0, a1, ())
def Xepactref21_Shift : Tepactref21_Shift := Yepactref21_Shift Xepactref21_Instant Xepactref01_Add
def Jepactref21_Shift (X : Tepactref21_Shift) : Inst := mkI 35 wpL96 .nil wpL24 .nil X
def Iepactref21_Shift : Inst := Jepactref21_Shift Xepactref21_Shift
theorem Eepactref21_Shift (xepactref21_Instant : Tepactref21_Instant) (xepactref01_Add : Tepactref01_Add) : EqF Tryz.prog 39 gives Tryz.f35 [Jepactref21_Instant xepactref21_Instant, Jepactref01_Add xepactref01_Add] [Lepactref21_Shift_0p] (Jepactref21_Shift (Yepactref21_Shift xepactref21_Instant xepactref01_Add)) := fun x y K => by kernel_rfl
theorem Iepactref21_Shift_ok : InstOk Tryz.prog G.1 Iepactref21_Shift := iok (gives := gives) [Lepactref21_Shift_0p] (okCons Iepactref21_Instant_ok (okCons Iepactref01_Add_ok okNil)) 39 follows Tryz.func35 (by kernel_rfl) (fun x => by kernel_rfl) (Eepactref21_Shift Xepactref21_Instant Xepactref01_Add)
abbrev Tepactref21_rising : Type := (List Eng.V) → (Bool → Prop) → Prop
def Lepactref21_rising_0 (K : Bool → Prop) : (wQ97 → Prop) → wQ97 → Prop := fun k1 x2 =>
 (if decide (x2.1.2.2.1 < (↑(List.length x2.1.1) : Int)) then
 (if 0 ≤ x2.1.2.2.1 ∧ x2.1.2.2.1 < (↑(List.length x2.1.1) : Int) then
 (Eng.asInt IntKind.i64 (Eng.getC x2.1.1 (Int.toNat x2.1.2.2.1) (0 : Nat)) False fun n3 =>
 (if 0 ≤ w64 (x2.1.2.2.1 - 1) ∧ w64 (x2.1.2.2.1 - 1) < (↑(List.length x2.1.1) : Int) then
 (Eng.asInt IntKind.i64 (Eng.getC x2.1.1 (Int.toNat (w64 (x2.1.2.2.1 - 1))) (0 : Nat)) False fun n4 =>
 (if decide (n3 ≤ n4) then
 K false
 else
 k1 ((x2.1.1, x2.1.2.1, w64 (x2.1.2.2.1 + 1), ()), ())))
 else
 False))
 else
 False)
 else
 K true)
def Lepactref21_rising_0p : Lp := ⟨13, [.trim 13], wpT98, .nil, 0⟩
def Yepactref21_rising (a0 : (List Eng.V)) (K : Bool → Prop) : Prop :=
 lp (Lepactref21_rising_0 K) ((a0, false, 1, ()), ())
def Xepactref21_rising : Tepactref21_rising := Yepactref21_rising
def Jepactref21_rising (X : Tepactref21_rising) : Inst := mkI 84 wpL27 .nil wpL10 .nil X
def Iepactref21_rising : Inst := Jepactref21_rising Xepactref21_rising
theorem Eepactref21_rising : EqF Tryz.prog 22 gives Tryz.f84 [] [Lepactref21_rising_0p] (Jepactref21_rising (Yepactref21_rising)) := fun x y K => by kernel_rfl
theorem Iepactref21_rising_ok : InstOk Tryz.prog G.1 Iepactref21_rising := iok (gives := gives) [Lepactref21_rising_0p] okNil 22 follows Tryz.func84 (by kernel_rfl) (fun x => by kernel_rfl) (Eepactref21_rising)
abbrev Tepactref21_Compile : Type := wQ0 → wQ60 → (wQ66 → Int → (List Eng.V) → Bool → Bool → (List Eng.V) → Bool → Bool → (List Eng.V) → Bool → Bool → Prop) → Prop
def Lepactref21_Compile_0 (xepactref21_Shift : Tepactref21_Shift) (xepactref21_rising : Tepactref21_rising) (K : wQ66 → Int → (List Eng.V) → Bool → Bool → (List Eng.V) → Bool → Bool → (List Eng.V) → Bool → Bool → Prop) : (wQ99 → Prop) → wQ99 → Prop := fun k18 x19 =>
 (if decide (x19.1.2.2.2.2.2.1 < (↑(List.length x19.2.1.2.1) : Int)) then
 (if 0 ≤ x19.1.2.2.2.2.2.1 ∧ x19.1.2.2.2.2.2.1 < (↑(List.length x19.2.1.2.1) : Int) then
 (Eng.asInt IntKind.i64 (Eng.getC x19.2.1.2.1 (Int.toNat x19.1.2.2.2.2.2.1) (0 : Nat)) False fun n20 =>
 xepactref21_Shift x19.2.1 x19.2.2.1 n20 (fun r21 r22 =>
 (if (!r22) then
 K ((), (), (), ByteArray.mk #[], 0, ()) 8 [] true true [] true true [] true true
 else
 (if 0 ≤ x19.1.2.2.2.2.2.1 ∧ x19.1.2.2.2.2.2.1 < (↑(List.length x19.2.2.2.2.2.2.1.1) : Int) then
 (if x19.2.2.2.2.2.2.1.2.2 = false then
 (if Int.toNat x19.1.2.2.2.2.2.1 < List.length x19.2.2.2.2.2.2.1.1 then
 k18 (((), (), (), x19.1.2.2.2.1, (), w64 (x19.1.2.2.2.2.2.1 + 1), ()), x19.2.1, x19.2.2.1, ((), (), (), x19.2.2.2.1.2.2.2), ((), (), (), x19.2.2.2.2.1.2.2.2), x19.2.2.2.2.2.1, (List.set x19.2.2.2.2.2.2.1.1 (Int.toNat x19.1.2.2.2.2.2.1) (Eng.setE (List.getD x19.2.2.2.2.2.2.1.1 (Int.toNat x19.1.2.2.2.2.2.1) Eng.V.bad) (0 : Nat) [Eng.V.c (Value.int IntKind.i64 r21)]), x19.2.2.2.2.2.2.1.2), x19.2.2.2.2.2.2.2)
 else
 False)
 else
 False)
 else
 False))))
 else
 False)
 else
 xepactref21_rising x19.2.2.2.2.2.2.1.1 (fun r23 =>
 (if (!r23) then
 K ((), (), (), ByteArray.mk #[], 0, ()) 4 [] true true [] true true [] true true
 else
 (if x19.2.2.1.2.1 then
 K ((), (), (), x19.2.2.2.2.1.2.2.2.1, 4, ()) 0 x19.2.2.2.2.2.1.1 x19.2.2.2.2.2.1.2.1 x19.2.2.2.2.2.1.2.2 x19.2.2.2.2.2.2.1.1 x19.2.2.2.2.2.2.1.2.1 x19.2.2.2.2.2.2.1.2.2 x19.2.2.2.2.2.2.2.1.1 x19.2.2.2.2.2.2.2.1.2.1 x19.2.2.2.2.2.2.2.1.2.2
 else
 K ((), (), (), x19.2.2.2.2.1.2.2.2) 0 x19.2.2.2.2.2.1.1 x19.2.2.2.2.2.1.2.1 x19.2.2.2.2.2.1.2.2 x19.2.2.2.2.2.2.1.1 x19.2.2.2.2.2.2.1.2.1 x19.2.2.2.2.2.2.1.2.2 x19.2.2.2.2.2.2.2.1.1 x19.2.2.2.2.2.2.2.1.2.1 x19.2.2.2.2.2.2.2.1.2.2))))
def Lepactref21_Compile_0p : Lp := ⟨2364, [.trim 2364], wpT100, wpH101, 0⟩
def Yepactref21_Compile (xepactref21_plain : Tepactref21_plain) (xepactref09_Right : Tepactref09_Right) (xepactref16_Copy : Tepactref16_Copy) (xepactref21_Records : Tepactref21_Records) (xepactref21_Shift : Tepactref21_Shift) (xepactref21_rising : Tepactref21_rising) (a0 : wQ0) (a1 : wQ60) (K : wQ66 → Int → (List Eng.V) → Bool → Bool → (List Eng.V) → Bool → Bool → (List Eng.V) → Bool → Bool → Prop) : Prop :=
 xepactref21_plain a0 (fun r2 =>
 xepactref09_Right a1 (fun r3 =>
 (if (!r2) then
 K ((), (), (), ByteArray.mk #[], 0, ()) 1 [] true true [] true true [] true true
 else
 (if (!r3) then
 K ((), (), (), ByteArray.mk #[], 0, ()) 1 [] true true [] true true [] true true
 else
 xepactref16_Copy a0 (fun r4 r5 r6 r7 r8 r9 r10 r11 r12 r13 =>
 xepactref21_Records a0 a1 (fun r14 r15 r16 r17 =>
 (if (r14 != 0) then
 K ((), (), (), ByteArray.mk #[], 0, ()) r14 [] true true [] true true [] true true
 else
 lp (Lepactref21_Compile_0 xepactref21_Shift xepactref21_rising K) (((), (), (), 0, (), 0, ()), a0, a1, ((), (), (), ByteArray.mk #[], 0, ()), ((), (), (), r4.2.2.2), (r5, r6, r7), (r8, r9, r10), (r15, r16, r17), ()))))))))
def Xepactref21_Compile : Tepactref21_Compile := Yepactref21_Compile Xepactref21_plain Xepactref09_Right Xepactref16_Copy Xepactref21_Records Xepactref21_Shift Xepactref21_rising
def Jepactref21_Compile (X : Tepactref21_Compile) : Inst := mkI 26 wpL90 .nil wpL102 wpH68 X
def Iepactref21_Compile : Inst := Jepactref21_Compile Xepactref21_Compile
theorem Eepactref21_Compile (xepactref21_plain : Tepactref21_plain) (xepactref09_Right : Tepactref09_Right) (xepactref16_Copy : Tepactref16_Copy) (xepactref21_Records : Tepactref21_Records) (xepactref21_Shift : Tepactref21_Shift) (xepactref21_rising : Tepactref21_rising) : EqF Tryz.prog 76 gives Tryz.f26 [Jepactref21_plain xepactref21_plain, Jepactref09_Right xepactref09_Right, Jepactref16_Copy xepactref16_Copy, Jepactref21_Records xepactref21_Records, Jepactref21_Shift xepactref21_Shift, Jepactref21_rising xepactref21_rising] [Lepactref21_Compile_0p] (Jepactref21_Compile (Yepactref21_Compile xepactref21_plain xepactref09_Right xepactref16_Copy xepactref21_Records xepactref21_Shift xepactref21_rising)) := fun x y K => by kernel_rfl
theorem Iepactref21_Compile_ok : InstOk Tryz.prog G.1 Iepactref21_Compile := iok (gives := gives) [Lepactref21_Compile_0p] (okCons Iepactref21_plain_ok (okCons Iepactref09_Right_ok (okCons Iepactref16_Copy_ok (okCons Iepactref21_Records_ok (okCons Iepactref21_Shift_ok (okCons Iepactref21_rising_ok okNil)))))) 76 follows Tryz.func26 (by kernel_rfl) (fun x => by kernel_rfl) (Eepactref21_Compile Xepactref21_plain Xepactref09_Right Xepactref16_Copy Xepactref21_Records Xepactref21_Shift Xepactref21_rising)
abbrev Tepactref21_Strip : Type := wQ0 → (wQ66 → Int → (List Eng.V) → Bool → Bool → (List Eng.V) → Bool → Bool → (List Eng.V) → Bool → Bool → Prop) → Prop
def Lepactref21_Strip_0 (xepactref12_Sum : Tepactref12_Sum) (xepactref01_Sub : Tepactref01_Sub) (xepactref21_rising : Tepactref21_rising) (K : wQ66 → Int → (List Eng.V) → Bool → Bool → (List Eng.V) → Bool → Bool → (List Eng.V) → Bool → Bool → Prop) : (wQ103 → Prop) → wQ103 → Prop := fun k12 x13 =>
 (if decide (x13.1.2.2.2.2.1 < (↑(List.length x13.2.1.2.1) : Int)) then
 (if 0 ≤ x13.1.2.2.2.2.1 ∧ x13.1.2.2.2.2.1 < (↑(List.length x13.2.1.2.1) : Int) then
 (Eng.asInt IntKind.i64 (Eng.getC x13.2.1.2.1 (Int.toNat x13.1.2.2.2.2.1) (0 : Nat)) False fun n14 =>
 (if 0 ≤ x13.1.2.2.2.2.1 ∧ x13.1.2.2.2.2.1 < (↑(List.length x13.2.1.2.1) : Int) then
 (Eng.asInt IntKind.i64 (Eng.getC x13.2.1.2.1 (Int.toNat x13.1.2.2.2.2.1) (0 : Nat)) False fun n15 =>
 xepactref12_Sum x13.2.1.2.2.1 n15 (fun r16 =>
 xepactref01_Sub n14 r16 (fun r17 r18 =>
 (if (!r18) then
 K ((), (), (), ByteArray.mk #[], 0, ()) 8 [] true true [] true true [] true true
 else
 (if 0 ≤ x13.1.2.2.2.2.1 ∧ x13.1.2.2.2.2.1 < (↑(List.length x13.2.2.2.2.2.1.1) : Int) then
 (if x13.2.2.2.2.2.1.2.2 = false then
 (if Int.toNat x13.1.2.2.2.2.1 < List.length x13.2.2.2.2.2.1.1 then
 k12 (((), (), x13.1.2.2.1, (), w64 (x13.1.2.2.2.2.1 + 1), ()), x13.2.1, ((), (), (), x13.2.2.1.2.2.2), ((), (), (), x13.2.2.2.1.2.2.2), x13.2.2.2.2.1, (List.set x13.2.2.2.2.2.1.1 (Int.toNat x13.1.2.2.2.2.1) (Eng.setE (List.getD x13.2.2.2.2.2.1.1 (Int.toNat x13.1.2.2.2.2.1) Eng.V.bad) (0 : Nat) [Eng.V.c (Value.int IntKind.i64 r17)]), x13.2.2.2.2.2.1.2), ())
 else
 False)
 else
 False)
 else
 False)))))
 else
 False))
 else
 False)
 else
 xepactref21_rising x13.2.2.2.2.2.1.1 (fun r19 =>
 (if (!r19) then
 K ((), (), (), ByteArray.mk #[], 0, ()) 4 [] true true [] true true [] true true
 else
 K ((), (), (), x13.2.2.2.1.2.2.2) 0 x13.2.2.2.2.1.1 x13.2.2.2.2.1.2.1 x13.2.2.2.2.1.2.2 x13.2.2.2.2.2.1.1 x13.2.2.2.2.2.1.2.1 x13.2.2.2.2.2.1.2.2 [] true true)))
def Lepactref21_Strip_0p : Lp := ⟨62, [.trim 62], wpT104, wpH105, 0⟩
def Yepactref21_Strip (xepactref19_Right : Tepactref19_Right) (xepactref16_Copy : Tepactref16_Copy) (xepactref12_Sum : Tepactref12_Sum) (xepactref01_Sub : Tepactref01_Sub) (xepactref21_rising : Tepactref21_rising) (a0 : wQ0) (K : wQ66 → Int → (List Eng.V) → Bool → Bool → (List Eng.V) → Bool → Bool → (List Eng.V) → Bool → Bool → Prop) : Prop :=
 xepactref19_Right a0 (fun r1 =>
 (if (!r1) then
 K ((), (), (), ByteArray.mk #[], 0, ()) 1 [] true true [] true true [] true true
 else
 xepactref16_Copy a0 (fun r2 r3 r4 r5 r6 r7 r8 r9 r10 r11 =>
 lp (Lepactref21_Strip_0 xepactref12_Sum xepactref01_Sub xepactref21_rising K) (((), (), 0, (), 0, ()), a0, ((), (), (), ByteArray.mk #[], 0, ()), ((), (), (), r2.2.2.2), (r3, r4, r5), (r6, r7, r8), ()))))
def Xepactref21_Strip : Tepactref21_Strip := Yepactref21_Strip Xepactref19_Right Xepactref16_Copy Xepactref12_Sum Xepactref01_Sub Xepactref21_rising
def Jepactref21_Strip (X : Tepactref21_Strip) : Inst := mkI 28 wpL4 .nil wpL102 wpH68 X
def Iepactref21_Strip : Inst := Jepactref21_Strip Xepactref21_Strip
theorem Eepactref21_Strip (xepactref19_Right : Tepactref19_Right) (xepactref16_Copy : Tepactref16_Copy) (xepactref12_Sum : Tepactref12_Sum) (xepactref01_Sub : Tepactref01_Sub) (xepactref21_rising : Tepactref21_rising) : EqF Tryz.prog 56 gives Tryz.f28 [Jepactref19_Right xepactref19_Right, Jepactref16_Copy xepactref16_Copy, Jepactref12_Sum xepactref12_Sum, Jepactref01_Sub xepactref01_Sub, Jepactref21_rising xepactref21_rising] [Lepactref21_Strip_0p] (Jepactref21_Strip (Yepactref21_Strip xepactref19_Right xepactref16_Copy xepactref12_Sum xepactref01_Sub xepactref21_rising)) := fun x y K => by kernel_rfl
theorem Iepactref21_Strip_ok : InstOk Tryz.prog G.1 Iepactref21_Strip := iok (gives := gives) [Lepactref21_Strip_0p] (okCons Iepactref19_Right_ok (okCons Iepactref16_Copy_ok (okCons Iepactref12_Sum_ok (okCons Iepactref01_Sub_ok (okCons Iepactref21_rising_ok okNil))))) 56 follows Tryz.func28 (by kernel_rfl) (fun x => by kernel_rfl) (Eepactref21_Strip Xepactref19_Right Xepactref16_Copy Xepactref12_Sum Xepactref01_Sub Xepactref21_rising)
abbrev Tepactlaw21_RightTells : Type := wQ0 → wQ60 → Int → (Bool → Prop) → Prop
def Lepactlaw21_RightTells_0 (xright_Instant : Tright_Instant) (xepactref21_Instant : Tepactref21_Instant) (xepactref12_Same : Tepactref12_Same) (K : Bool → Prop) : (wQ106 → Prop) → wQ106 → Prop := fun k66 x67 =>
 (if decide (x67.1.2.2.2.2.2.2.2.2.2.2.2.2.1 < (↑(List.length x67.2.2.1.1) : Int)) then
 (if 0 ≤ x67.1.2.2.2.2.2.2.2.2.2.2.2.2.1 ∧ x67.1.2.2.2.2.2.2.2.2.2.2.2.2.1 < (↑(List.length x67.2.2.1.1) : Int) then
 (Eng.asInt IntKind.i64 (Eng.getC x67.2.2.1.1 (Int.toNat x67.1.2.2.2.2.2.2.2.2.2.2.2.2.1) (0 : Nat)) False fun n68 =>
 (Eng.asInt IntKind.i64 (Eng.getC x67.2.2.1.1 (Int.toNat x67.1.2.2.2.2.2.2.2.2.2.2.2.2.1) (1 : Nat)) False fun n69 =>
 (Eng.asBool (Eng.getC x67.2.2.1.1 (Int.toNat x67.1.2.2.2.2.2.2.2.2.2.2.2.2.1) (2 : Nat)) False fun b70 =>
 (if 0 ≤ x67.1.2.2.2.2.2.2.2.2.2.2.2.2.1 ∧ x67.1.2.2.2.2.2.2.2.2.2.2.2.2.1 < (↑(List.length x67.2.2.1.1) : Int) then
 (Eng.asInt IntKind.i64 (Eng.getC x67.2.2.1.1 (Int.toNat x67.1.2.2.2.2.2.2.2.2.2.2.2.2.1) (0 : Nat)) False fun n71 =>
 (Eng.asInt IntKind.i64 (Eng.getC x67.2.2.1.1 (Int.toNat x67.1.2.2.2.2.2.2.2.2.2.2.2.2.1) (1 : Nat)) False fun n72 =>
 (Eng.asBool (Eng.getC x67.2.2.1.1 (Int.toNat x67.1.2.2.2.2.2.2.2.2.2.2.2.2.1) (2 : Nat)) False fun b73 =>
 xright_Instant x67.2.1 (n68, n69, b70, ()) (fun r74 =>
 xepactref21_Instant x67.2.1 (n71, n72, b73, ()) (fun r75 =>
 (if (r74 != r75) then
 K false
 else
 k66 (((), (), x67.1.2.2.1, x67.1.2.2.2.1, (), x67.1.2.2.2.2.2.1, (), x67.1.2.2.2.2.2.2.2.1, x67.1.2.2.2.2.2.2.2.2.1, x67.1.2.2.2.2.2.2.2.2.2.1, x67.1.2.2.2.2.2.2.2.2.2.2.1, x67.1.2.2.2.2.2.2.2.2.2.2.2.1, w64 (x67.1.2.2.2.2.2.2.2.2.2.2.2.2.1 + 1), ()), x67.2)))))))
 else
 False))))
 else
 False)
 else
 (if x67.1.2.2.2.1 then
 xepactref12_Same x67.2.2.2.1.1 x67.2.2.2.2.1.1 (fun r76 =>
 (if r76 then
 (if (x67.1.2.2.2.2.2.1 == x67.1.2.2.2.2.2.2.2.1) then
 (if (x67.1.2.2.2.2.2.2.2.2.1 == x67.1.2.2.2.2.2.2.2.2.2.2.1) then
 K (x67.1.2.2.2.2.2.2.2.2.2.1 == x67.1.2.2.2.2.2.2.2.2.2.2.2.1)
 else
 K false)
 else
 K false)
 else
 K false))
 else
 K false))
def Lepactlaw21_RightTells_0p : Lp := ⟨535822552, [.trim 535822552], wpT107, wpH108, 0⟩
def Yepactlaw21_RightTells (xepactlaw21_small : Tepactlaw21_small) (xepactlaw16_Few : Tepactlaw16_Few) (xepactlaw09_Few : Tepactlaw09_Few) (xright_Compile : Tright_Compile) (xepactref21_Compile : Tepactref21_Compile) (xright_Strip : Tright_Strip) (xepactref21_Strip : Tepactref21_Strip) (xepactref16_Same : Tepactref16_Same) (xepactref19_Right : Tepactref19_Right) (xepactref09_Right : Tepactref09_Right) (xright_Records : Tright_Records) (xepactref21_Records : Tepactref21_Records) (xright_Shift : Tright_Shift) (xepactref21_Shift : Tepactref21_Shift) (xright_Instant : Tright_Instant) (xepactref21_Instant : Tepactref21_Instant) (xepactref12_Same : Tepactref12_Same) (a0 : wQ0) (a1 : wQ60) (a2 : Int) (K : Bool → Prop) : Prop :=
 xepactlaw21_small (fun r3 =>
 xepactlaw16_Few a0 (fun r4 =>
 xepactlaw09_Few a1 (fun r5 =>
 (if (!r4) then
 K r3
 else
 (if (!r5) then
 K r3
 else
 xright_Compile a0 a1 (fun r6 r7 r8 r9 r10 r11 r12 r13 r14 r15 r16 =>
 xepactref21_Compile a0 a1 (fun r17 r18 r19 r20 r21 r22 r23 r24 r25 r26 r27 =>
 xright_Strip a0 (fun r28 r29 r30 r31 r32 r33 r34 r35 r36 r37 r38 =>
 xepactref21_Strip a0 (fun r39 r40 r41 r42 r43 r44 r45 r46 r47 r48 r49 =>
 xepactref16_Same (r8, r11, r14, r6.2.2.2) (r19, r22, r25, r17.2.2.2) (fun r50 =>
 (if (!r50) then
 K false
 else
 (if (r7 != r18) then
 K false
 else
 xepactref16_Same (r30, r33, r36, r28.2.2.2) (r41, r44, r47, r39.2.2.2) (fun r51 =>
 (if (!r51) then
 K false
 else
 (if (r29 != r40) then
 K false
 else
 xepactref19_Right a0 (fun r52 =>
 xepactref09_Right a1 (fun r53 =>
 (if (!r52) then
 K r3
 else
 (if (!r53) then
 K r3
 else
 (if decide ((↑(List.length a0.2.2.1) : Int) > 0) then
 K r3
 else
 xright_Records a0 a1 (fun r54 r55 r56 r57 =>
 xepactref21_Records a0 a1 (fun r58 r59 r60 r61 =>
 xright_Shift a0 a1 a2 (fun r62 r63 =>
 xepactref21_Shift a0 a1 a2 (fun r64 r65 =>
 lp (Lepactlaw21_RightTells_0 xright_Instant xepactref21_Instant xepactref12_Same K) (((), (), false, r3, (), r54, (), r58, r62, r63, r64, r65, 0, ()), a0, a1, (r55, r56, r57), (r59, r60, r61), ())))))))))))))))))))))))))
def Xepactlaw21_RightTells : Tepactlaw21_RightTells := Yepactlaw21_RightTells Xepactlaw21_small Xepactlaw16_Few Xepactlaw09_Few Xright_Compile Xepactref21_Compile Xright_Strip Xepactref21_Strip Xepactref16_Same Xepactref19_Right Xepactref09_Right Xright_Records Xepactref21_Records Xright_Shift Xepactref21_Shift Xright_Instant Xepactref21_Instant Xepactref12_Same
def Jepactlaw21_RightTells (X : Tepactlaw21_RightTells) : Inst := mkI 3 wpL96 .nil wpL10 .nil X
def Iepactlaw21_RightTells : Inst := Jepactlaw21_RightTells Xepactlaw21_RightTells
theorem Eepactlaw21_RightTells (xepactlaw21_small : Tepactlaw21_small) (xepactlaw16_Few : Tepactlaw16_Few) (xepactlaw09_Few : Tepactlaw09_Few) (xright_Compile : Tright_Compile) (xepactref21_Compile : Tepactref21_Compile) (xright_Strip : Tright_Strip) (xepactref21_Strip : Tepactref21_Strip) (xepactref16_Same : Tepactref16_Same) (xepactref19_Right : Tepactref19_Right) (xepactref09_Right : Tepactref09_Right) (xright_Records : Tright_Records) (xepactref21_Records : Tepactref21_Records) (xright_Shift : Tright_Shift) (xepactref21_Shift : Tepactref21_Shift) (xright_Instant : Tright_Instant) (xepactref21_Instant : Tepactref21_Instant) (xepactref12_Same : Tepactref12_Same) : EqF Tryz.prog 169 gives Tryz.f3 [Jepactlaw21_small xepactlaw21_small, Jepactlaw16_Few xepactlaw16_Few, Jepactlaw09_Few xepactlaw09_Few, Jright_Compile xright_Compile, Jepactref21_Compile xepactref21_Compile, Jright_Strip xright_Strip, Jepactref21_Strip xepactref21_Strip, Jepactref16_Same xepactref16_Same, Jepactref19_Right xepactref19_Right, Jepactref09_Right xepactref09_Right, Jright_Records xright_Records, Jepactref21_Records xepactref21_Records, Jright_Shift xright_Shift, Jepactref21_Shift xepactref21_Shift, Jright_Instant xright_Instant, Jepactref21_Instant xepactref21_Instant, Jepactref12_Same xepactref12_Same] [Lepactlaw21_RightTells_0p] (Jepactlaw21_RightTells (Yepactlaw21_RightTells xepactlaw21_small xepactlaw16_Few xepactlaw09_Few xright_Compile xepactref21_Compile xright_Strip xepactref21_Strip xepactref16_Same xepactref19_Right xepactref09_Right xright_Records xepactref21_Records xright_Shift xepactref21_Shift xright_Instant xepactref21_Instant xepactref12_Same)) := fun x y K => by kernel_rfl
theorem Iepactlaw21_RightTells_ok : InstOk Tryz.prog G.1 Iepactlaw21_RightTells := iok (gives := gives) [Lepactlaw21_RightTells_0p] (okCons Iepactlaw21_small_ok (okCons Iepactlaw16_Few_ok (okCons Iepactlaw09_Few_ok (okCons Iright_Compile_ok (okCons Iepactref21_Compile_ok (okCons Iright_Strip_ok (okCons Iepactref21_Strip_ok (okCons Iepactref16_Same_ok (okCons Iepactref19_Right_ok (okCons Iepactref09_Right_ok (okCons Iright_Records_ok (okCons Iepactref21_Records_ok (okCons Iright_Shift_ok (okCons Iepactref21_Shift_ok (okCons Iright_Instant_ok (okCons Iepactref21_Instant_ok (okCons Iepactref12_Same_ok okNil))))))))))))))))) 169 follows Tryz.func3 (by kernel_rfl) (fun x => by kernel_rfl) (Eepactlaw21_RightTells Xepactlaw21_small Xepactlaw16_Few Xepactlaw09_Few Xright_Compile Xepactref21_Compile Xright_Strip Xepactref21_Strip Xepactref16_Same Xepactref19_Right Xepactref09_Right Xright_Records Xepactref21_Records Xright_Shift Xepactref21_Shift Xright_Instant Xepactref21_Instant Xepactref12_Same)
end Go.Proofs.YtenaflbcnkalbaaGreatDoor
end
section
set_option linter.unusedVariables false
set_option linter.unusedSimpArgs false
namespace Go.Proofs.YtenaflbcnkalbaaGreatDoor
open Go Go.Proofs.YtenaflbcnkalbaaGreatDoor.Eng
abbrev akRightTells0 : AK := (.st (.cons (.sl (.st (.cons (.int .i64) (.cons .bool (.cons .str .nil))))) (.cons (.sl (.st (.cons (.int .i64) (.cons (.int .i64) .nil)))) (.cons (.sl (.st (.cons (.int .i64) (.cons (.int .i64) .nil)))) (.cons .str (.cons (.int .i64) .nil))))))
abbrev akRightTells1 : AK := (.st (.cons (.sl (.st (.cons (.int .i64) (.cons (.int .i64) (.cons .bool .nil))))) (.cons .bool (.cons (.int .i64) .nil))))
abbrev akRightTells2 : AK := (.int .i64)
/-- The law over plain data. -/
def PureRightTells : Prop := ∀ (a0 : akRightTells0.T) (h0 : akRightTells0.good a0) (a1 : akRightTells1.T) (h1 : akRightTells1.good a1) (a2 : akRightTells2.T) (h2 : akRightTells2.good a2), Xepactlaw21_RightTells (akRightTells0.DV a0) (akRightTells1.DV a1) (akRightTells2.DV a2) (fun b => b = true)
end Go.Proofs.YtenaflbcnkalbaaGreatDoor
end
section
set_option linter.unusedVariables false
set_option linter.unusedSimpArgs false
namespace Go.Proofs.YtenaflbcnkalbaaGreatDoor.Pl
open Go
def digsN : Nat → Nat → List UInt8
 | 0, _ => []
 | k + 1, u => if u < 10 then [UInt8.ofNat (48 + u)] else digsN k (u / 10) ++ [UInt8.ofNat (48 + u % 10)]
def itoaK (n : Int) : List UInt8 := if n < 0 then 45 :: digsN 20 n.natAbs else digsN 20 n.toNat
def isDig (c : UInt8) : Bool := 48 ≤ c.toNat && c.toNat ≤ 57
/-- A text out of a list. -/
abbrev S (l : List UInt8) : ByteArray := ⟨l.toArray⟩
theorem S_size (l : List UInt8) : (S l).size = l.length := by simp [S, ByteArray.size]
theorem S_append (a b : List UInt8) : S a ++ S b = S (a ++ b) := ByteArray.mk_append_mk a b
theorem S_toList (l : List UInt8) : (S l).toList = l := ByteArray.toList_mk l
theorem S_data (l : List UInt8) : (S l).data.toList = l := by simp [S]
theorem S_extract (l : List UInt8) (a b : Nat) : (S l).extract a b = S ((l.drop a).take (b - a)) := by rw [Lib.extract_eq, S_data]
theorem u8_eq {a b : UInt8} (h : a.toNat = b.toNat) : a = b := UInt8.toNat_inj.1 h
/-- How many digits a list begins with. -/
def dl (l : List UInt8) : Nat := (l.takeWhile isDig).length
theorem dl_le (l : List UInt8) : dl l ≤ l.length := by unfold dl; exact (List.takeWhile_sublist _).length_le
theorem dl_cons (c : UInt8) (l : List UInt8) : dl (c :: l) = if isDig c = true then dl l + 1 else 0 := by
 unfold dl; rw [List.takeWhile_cons]; split <;> simp
/-- The number of a row of digits. -/
def valL (l : List UInt8) : Nat := l.foldl (fun n c => 10 * n + (c.toNat - 48)) 0
theorem decFrom_val : ∀ (l : List UInt8) (acc : Nat), (∀ c ∈ l, isDig c = true) → Lib.decFrom acc l = some (l.foldl (fun n c => 10 * n + (c.toNat - 48)) acc)
 | [], acc, _ => rfl
 | c :: l, acc, h => by
  have hc : isDig c = true := h c (by simp)
  unfold isDig at hc
  simp at hc
  unfold Lib.decFrom Lib.digitVal
  rw [if_pos hc]
  simp only []
  rw [decFrom_val l _ (fun c' hc' => h c' (by simp [hc'])), List.foldl_cons, Nat.mul_comm]
theorem atoi_val (l : List UInt8) (hne : l ≠ []) (h : ∀ c ∈ l, isDig c = true) : Lib.atoi l = some (valL l : Int) := by
 cases l with
 | nil => exact absurd rfl hne
 | cons c r =>
  have hc : isDig c = true := h c (by simp)
  unfold isDig at hc
  simp at hc
  have h1 : (c == 45) = false := by rw [beq_eq_false_iff_ne]; rintro rfl; simp at hc
  have h2 : (c == 43) = false := by rw [beq_eq_false_iff_ne]; rintro rfl; simp at hc
  simp only [Lib.atoi, Lib.decNat, h1, h2, Bool.false_eq_true, if_false, List.isEmpty_cons]
  rw [decFrom_val _ _ h]
  rfl
theorem take_dl_dig (l : List UInt8) (k : Nat) (h : k ≤ dl l) : ∀ c ∈ l.take k, isDig c = true := by
 intro c hc
 have hs : l.take k = (l.takeWhile isDig).take k := by
  conv => lhs; rw [← List.takeWhile_append_dropWhile (p := isDig) (l := l)]
  rw [List.take_append_of_le_length h]
 rw [hs] at hc
 have hall : (l.takeWhile isDig).all isDig = true := List.all_takeWhile
 exact List.all_eq_true.1 hall c (List.mem_of_mem_take hc)
end Go.Proofs.YtenaflbcnkalbaaGreatDoor.Pl
end
section
set_option linter.unusedVariables false
set_option linter.unusedSimpArgs false
namespace Go.Proofs.YtenaflbcnkalbaaGreatDoor.Pl
open Go
/-- What stands behind a colon: minutes, or seconds. -/
def sixtyL : List UInt8 → Int × List UInt8 × Bool
 | c :: a :: b :: r => if c = 58 ∧ isDig a = true ∧ isDig b = true ∧ a.toNat ≤ 53 then (10 * (a.toNat - 48) + (b.toNat - 48), r, true) else (0, c :: a :: b :: r, false)
 | l => (0, l, false)
theorem foldl_lt : ∀ (l : List UInt8) (acc : Nat), (∀ c ∈ l, isDig c = true) → l.foldl (fun n c => 10 * n + (c.toNat - 48)) acc < (acc + 1) * 10 ^ l.length
 | [], acc, _ => by simp
 | c :: l, acc, h => by
  have hc : isDig c = true := h c (by simp)
  unfold isDig at hc
  simp at hc
  have := foldl_lt l (10 * acc + (c.toNat - 48)) (fun c' hc' => h c' (by simp [hc']))
  rw [List.foldl_cons, List.length_cons, Nat.pow_succ]
  refine Nat.lt_of_lt_of_le this ?_
  have h1 : (10 * acc + (c.toNat - 48) + 1) ≤ (acc + 1) * 10 := by omega
  calc (10 * acc + (c.toNat - 48) + 1) * 10 ^ l.length ≤ ((acc + 1) * 10) * 10 ^ l.length := Nat.mul_le_mul_right _ h1
   _ = (acc + 1) * (10 ^ l.length * 10) := by rw [Nat.mul_assoc, Nat.mul_comm 10]
theorem valL_lt (l : List UInt8) (h : ∀ c ∈ l, isDig c = true) : valL l < 10 ^ l.length := by
 have := foldl_lt l 0 h
 simpa [valL] using this
theorem sixty_bd (l : List UInt8) : 0 ≤ (sixtyL l).1 ∧ (sixtyL l).1 ≤ 59 := by
 unfold sixtyL
 split
 ·split
  ·rename_i h
   obtain ⟨_, ha, hb, h5⟩ := h
   unfold isDig at ha hb
   simp at ha hb
   simp only []
   omega
  ·simp
 ·simp
/-- A time. -/
def signL : List UInt8 → Int × List UInt8
 | [] => (1, [])
 | c :: r => if c = 45 then (-1, r) else if c = 43 then (1, r) else (1, c :: r)
def hourL (t : List UInt8) : Nat × Nat :=
 if valL (t.take (min (dl t) 3)) > 167 then (valL (t.take (min (dl t) 3)) / 10, min (dl t) 3 - 1) else (valL (t.take (min (dl t) 3)), min (dl t) 3)
def moreL (p : Int × List UInt8 × Bool) : Int × List UInt8 × Bool := if p.2.2 = true then sixtyL p.2.1 else (0, p.2.1, false)
def timeL (l : List UInt8) : Int × List UInt8 × Bool :=
 if dl (signL l).2 = 0 then (0, l, false)
 else
  ((signL l).1 * ((hourL (signL l).2).1 * 3600 + (sixtyL ((signL l).2.drop (hourL (signL l).2).2)).1 * 60 + (moreL (sixtyL ((signL l).2.drop (hourL (signL l).2).2))).1),
   (moreL (sixtyL ((signL l).2.drop (hourL (signL l).2).2))).2.1, true)
theorem hour_bd (t : List UInt8) : (hourL t).1 ≤ 167 ∧ (hourL t).2 ≤ dl t ∧ (hourL t).2 ≤ 3 ∧ (dl t ≠ 0 → 1 ≤ (hourL t).2) := by
 have hv : valL (t.take (min (dl t) 3)) < 10 ^ (t.take (min (dl t) 3)).length := valL_lt _ (take_dl_dig t _ (Nat.min_le_left _ _))
 have hl : (t.take (min (dl t) 3)).length ≤ 3 := by rw [List.length_take]; omega
 have h3 : 10 ^ (t.take (min (dl t) 3)).length ≤ 10 ^ 3 := Nat.pow_le_pow_right (by omega) hl
 have hm : min (dl t) 3 ≤ dl t := Nat.min_le_left _ _
 have hm3 : min (dl t) 3 ≤ 3 := Nat.min_le_right _ _
 unfold hourL
 split
 ·rename_i hgt
  refine ⟨by simp only []; omega, by simp only []; omega, by simp only []; omega, fun h0 => ?_⟩
  simp only []
  have : ¬ (t.take (min (dl t) 3)).length ≤ 1 := fun h1 => by
   have : 10 ^ (t.take (min (dl t) 3)).length ≤ 10 ^ 1 := Nat.pow_le_pow_right (by omega) h1
   omega
  rw [List.length_take] at this
  omega
 ·refine ⟨by simp only []; omega, by simp only []; omega, by simp only []; omega, fun h0 => by simp only []; omega⟩
def pairL (m : Nat) : List UInt8 := 58 :: (digsN 20 (m / 10) ++ digsN 20 (m % 10))
/-- The text of a time. -/
def clockB (a : Nat) : List UInt8 := digsN 20 (a / 3600) ++ (if a % 60 ≠ 0 then pairL (a / 60 % 60) ++ pairL (a % 60) else if a / 60 % 60 ≠ 0 then pairL (a / 60 % 60) else [])
def clockL (sec : Int) : List UInt8 × Bool := if -604799 ≤ sec ∧ sec ≤ 604799 then ((if sec < 0 then [45] else []) ++ clockB sec.natAbs, true) else ([], false)
theorem sixty_drop (l : List UInt8) : ∃ j, j ≤ l.length ∧ (sixtyL l).2.1 = l.drop j := by
 unfold sixtyL
 split
 ·split
  ·exact ⟨3, by simp, rfl⟩
  ·exact ⟨0, by simp, rfl⟩
 ·exact ⟨0, by simp, rfl⟩
theorem sign_drop (l : List UInt8) : ∃ j, j ≤ l.length ∧ (signL l).2 = l.drop j ∧ ((signL l).1 = 1 ∨ (signL l).1 = -1) := by
 unfold signL
 split
 ·exact ⟨0, by simp, rfl, .inl rfl⟩
 ·split
  ·exact ⟨1, by simp, rfl, .inr rfl⟩
  ·split
   ·exact ⟨1, by simp, rfl, .inl rfl⟩
   ·exact ⟨0, by simp, rfl, .inl rfl⟩
theorem time_drop (l : List UInt8) : ∃ j, j ≤ l.length ∧ (timeL l).2.1 = l.drop j ∧ ((timeL l).2.2 = true ↔ 0 < j) ∧ -604799 ≤ (timeL l).1 ∧ (timeL l).1 ≤ 604799 ∧ ((timeL l).2.2 = false → (timeL l).1 = 0 ∧ j = 0) := by
 obtain ⟨j0, h0, e0, hs⟩ := sign_drop l
 unfold timeL
 by_cases hd : dl (signL l).2 = 0
 ·rw [if_pos hd]
  exact ⟨0, by omega, by simp, by simp, by simp, by simp, by simp⟩
 ·rw [if_neg hd]
  obtain ⟨b1, b2, b3, b4⟩ := hour_bd (signL l).2
  have b4' := b4 hd
  have hdl := dl_le (signL l).2
  obtain ⟨j1, h1, e1⟩ := sixty_drop ((signL l).2.drop (hourL (signL l).2).2)
  have s1 := sixty_bd ((signL l).2.drop (hourL (signL l).2).2)
  have key : ∃ j2, j2 ≤ (sixtyL ((signL l).2.drop (hourL (signL l).2).2)).2.1.length ∧ (moreL (sixtyL ((signL l).2.drop (hourL (signL l).2).2))).2.1 = (sixtyL ((signL l).2.drop (hourL (signL l).2).2)).2.1.drop j2 ∧
    0 ≤ (moreL (sixtyL ((signL l).2.drop (hourL (signL l).2).2))).1 ∧ (moreL (sixtyL ((signL l).2.drop (hourL (signL l).2).2))).1 ≤ 59 := by
   unfold moreL
   split
   ·obtain ⟨j2, h2, e2⟩ := sixty_drop (sixtyL ((signL l).2.drop (hourL (signL l).2).2)).2.1
    exact ⟨j2, h2, e2, sixty_bd _⟩
   ·exact ⟨0, by omega, rfl, by simp, by simp⟩
  obtain ⟨j2, h2, e2, hb1, hb2⟩ := key
  rw [e2, e1, e0, List.drop_drop, List.drop_drop, List.drop_drop]
  rw [e1] at h2
  rw [e0] at h1 h2 hdl b2
  simp only [List.length_drop] at h1 h2 hdl
  rw [e0] at b4' b3 s1 hb1 hb2
  refine ⟨_, ?_, rfl, ?_, ?_⟩
  ·omega
  ·simp; omega
  ·generalize (sixtyL (List.drop (hourL (List.drop j0 l)).2 (List.drop j0 l))).1 = x at *
   generalize (moreL (sixtyL (List.drop (hourL (List.drop j0 l)).2 (List.drop j0 l)))).1 = y at *
   rw [e0] at b1
   generalize (hourL (List.drop j0 l)).1 = v at *
   rcases hs with hs | hs <;> rw [hs] <;> refine ⟨?_, ?_, by simp⟩ <;> omega
end Go.Proofs.YtenaflbcnkalbaaGreatDoor.Pl
end
section
set_option linter.unusedVariables false
set_option linter.unusedSimpArgs false
namespace Go.Proofs.YtenaflbcnkalbaaGreatDoor.Pl
open Go
/-- A leap year. -/
def leapY (y : Int) : Bool := decide (y % 4 = 0 ∧ (y % 100 ≠ 0 ∨ y % 400 = 0))
/-- The number of a year's first day. -/
def fst (y : Int) : Int := 365 * (y - 1) + (y - 1) / 4 - (y - 1) / 100 + (y - 1) / 400 - 719162
/-- How many days of a common year lie ahead of a month. -/
def cum0 (m : Int) : Int := if m = 1 then 0 else if m = 2 then 31 else if m = 3 then 59 else if m = 4 then 90 else if m = 5 then 120 else if m = 6 then 151 else if m = 7 then 181 else if m = 8 then 212 else if m = 9 then 243 else if m = 10 then 273 else if m = 11 then 304 else if m = 12 then 334 else 365
def cum (y m : Int) : Int := cum0 m + if 2 < m ∧ leapY y = true then 1 else 0
def dim (y m : Int) : Int := if m = 2 then (if leapY y = true then 29 else 28) else if m = 4 then 30 else if m = 6 then 30 else if m = 9 then 30 else if m = 11 then 30 else 31
/-- The number of a date. -/
def num (y m d : Int) : Int := fst y + cum y m + d - 1
/-- A date. -/
def Vld (y m d : Int) : Prop := 1 ≤ y ∧ y ≤ 9999 ∧ 1 ≤ m ∧ m ≤ 12 ∧ 1 ≤ d ∧ d ≤ dim y m
theorem leapY_iff (y : Int) : leapY y = true ↔ (y % 4 = 0 ∧ (y % 100 ≠ 0 ∨ y % 400 = 0)) := by unfold leapY; exact decide_eq_true_iff
theorem month_cases {m : Int} (h1 : 1 ≤ m) (h2 : m ≤ 12) : m = 1 ∨ m = 2 ∨ m = 3 ∨ m = 4 ∨ m = 5 ∨ m = 6 ∨ m = 7 ∨ m = 8 ∨ m = 9 ∨ m = 10 ∨ m = 11 ∨ m = 12 := by omega
theorem dim_bd (y m : Int) : 28 ≤ dim y m ∧ dim y m ≤ 31 := by unfold dim; repeat' split <;> omega
theorem fst_succ (y : Int) : fst (y + 1) = fst y + 365 + if leapY y = true then 1 else 0 := by
 have := leapY_iff y
 unfold fst
 by_cases h : leapY y = true
 ·rw [if_pos h]; have := this.1 h; omega
 ·rw [if_neg h]
  have h' : ¬ (y % 4 = 0 ∧ (y % 100 ≠ 0 ∨ y % 400 = 0)) := fun z => h (this.2 z)
  omega
theorem cum_succ (y m : Int) (h1 : 1 ≤ m) (h2 : m ≤ 12) : cum y m + dim y m = if m = 12 then 365 + (if leapY y = true then 1 else 0) else cum y (m + 1) := by
 rcases month_cases h1 h2 with rfl | rfl | rfl | rfl | rfl | rfl | rfl | rfl | rfl | rfl | rfl | rfl <;>
  cases hl : leapY y <;> simp [cum, cum0, dim, hl]
theorem num_bd {y m d : Int} (h : Vld y m d) : fst y ≤ num y m d ∧ num y m d < fst (y + 1) := by
 obtain ⟨_, _, h1, h2, h3, h4⟩ := h
 rw [fst_succ]
 unfold num
 rcases month_cases h1 h2 with rfl | rfl | rfl | rfl | rfl | rfl | rfl | rfl | rfl | rfl | rfl | rfl <;>
  cases hl : leapY y <;> simp [cum, cum0, dim, hl] at h4 ⊢ <;> omega
theorem fst_bd {y : Int} (h1 : 1 ≤ y) (h2 : y ≤ 9999) : -719162 ≤ fst y ∧ fst (y + 1) ≤ 2932897 := by unfold fst; omega
theorem fst_le {y z : Int} (h : y ≤ z) : fst y ≤ fst z := by unfold fst; omega
theorem num_range {y m d : Int} (h : Vld y m d) : -719162 ≤ num y m d ∧ num y m d ≤ 2932896 := by
 have := num_bd h
 have := fst_bd h.1 h.2.1
 omega
/-- A date's year and month, so counted. -/
def sy (y m : Int) : Int := if m < 3 then y - 1 else y
def sm (m : Int) : Int := if m < 3 then m + 12 else m
/-- The program's own formula. -/
def numP (y m d : Int) : Int := 146097 * (sy y m / 400) + 365 * (sy y m % 400) + (sy y m % 400) / 4 - (sy y m % 400) / 100 + ((153 * (sm m - 3) + 2) / 5 + d - 1) - 719468
theorem numP_eq {y m d : Int} (h1 : 1 ≤ m) (h2 : m ≤ 12) : numP y m d = num y m d := by
 have hl := leapY_iff y
 have key : ∀ b : Bool, leapY y = b → numP y m d = num y m d := by
  intro b hb
  cases b with
  | true =>
   have hl' := hl.1 hb
   rcases month_cases h1 h2 with rfl | rfl | rfl | rfl | rfl | rfl | rfl | rfl | rfl | rfl | rfl | rfl <;>
    simp [numP, num, fst, cum, cum0, sy, sm, hb] <;> omega
  | false =>
   have hl' : ¬ (y % 4 = 0 ∧ (y % 100 ≠ 0 ∨ y % 400 = 0)) := fun z => by rw [hl.2 z] at hb; cases hb
   rcases month_cases h1 h2 with rfl | rfl | rfl | rfl | rfl | rfl | rfl | rfl | rfl | rfl | rfl | rfl <;>
    simp [numP, num, fst, cum, cum0, sy, sm, hb] <;> omega
 exact key _ rfl
/-- The first day of March-year b of an era. -/
def st (b : Int) : Int := 365 * b + b / 4 - b / 100
def gy (o : Int) : Int := o - o / 1460 + o / 36524 - o / 146096
theorem gy_mono {a b : Int} (h0 : 0 ≤ a) (h : a ≤ b) (hb : b ≤ 146096) : gy a ≤ gy b := by unfold gy; omega
theorem ends : ∀ n : Nat, n < 400 → (gy (st n) / 365 = n ∧ gy (st (n + 1) - (if n = 399 then 0 else 1)) / 365 = n) := by decide +kernel
theorem year_of {o b : Int} (h0 : 0 ≤ b) (h1 : b < 400) (h2 : st b ≤ o) (h3 : o < st (b + 1) ∨ (b = 399 ∧ o ≤ 146096)) : gy o / 365 = b := by
 obtain ⟨n, rfl⟩ := Int.eq_ofNat_of_zero_le h0
 obtain ⟨e1, e2⟩ := ends n (by omega)
 have hs0 : 0 ≤ st n := by unfold st; omega
 have hs1 : st (n + 1) ≤ 146097 := by unfold st; omega
 by_cases hn : n = 399
 ·subst hn
  have hm : st ((399 : Nat) + 1) = 146096 := by decide
  rw [if_pos rfl, hm] at e2
  have ho : o ≤ 146096 := by
   rcases h3 with h3 | h3
   ·have : ((399 : Nat) : Int) + 1 = 400 := rfl
    rw [this] at h3; have : st 400 = 146096 := by decide
    omega
   ·exact h3.2
  have g1 := gy_mono hs0 h2 ho
  have g2 := gy_mono (by omega : 0 ≤ o) ho (Int.le_refl _)
  simp only [Int.sub_zero] at e2
  omega
 ·rw [if_neg hn] at e2
  have ho : o ≤ st (n + 1) - 1 := by
   rcases h3 with h3 | h3
   ·omega
   ·omega
  have g1 := gy_mono hs0 h2 (by omega)
  have g2 := gy_mono (by omega : 0 ≤ o) ho (by omega)
  omega
/-- The program's own date of a number. -/
def era (n : Int) : Int := (n + 719468) / 146097
def ofE (n : Int) : Int := (n + 719468) % 146097
def yrs (n : Int) : Int := gy (ofE n) / 365
def doy (n : Int) : Int := ofE n - st (yrs n)
def mon (n : Int) : Int := (5 * doy n + 2) / 153
def dayP (n : Int) : Int := doy n - (153 * mon n + 2) / 5 + 1
def monP (n : Int) : Int := if mon n + 3 > 12 then mon n + 3 - 12 else mon n + 3
def yearP (n : Int) : Int := 400 * era n + (if mon n + 3 > 12 then yrs n + 1 else yrs n)
theorem date_num' {y m d : Int} (h : Vld y m d) : (0 ≤ doy (num y m d) ∧ doy (num y m d) ≤ 365) ∧ yearP (num y m d) = y ∧ monP (num y m d) = m ∧ dayP (num y m d) = d := by
 obtain ⟨a1, a2, h1, h2, h3, h4⟩ := h
 have hl := leapY_iff y
 rw [← numP_eq h1 h2]
 have hb : 0 ≤ sy y m % 400 ∧ sy y m % 400 < 400 := by omega
 have hdoy : 0 ≤ (153 * (sm m - 3) + 2) / 5 + d - 1 ∧ st (sy y m % 400) + ((153 * (sm m - 3) + 2) / 5 + d - 1) ≤ 146096 ∧
   (st (sy y m % 400) + ((153 * (sm m - 3) + 2) / 5 + d - 1) < st (sy y m % 400 + 1) ∨ sy y m % 400 = 399) := by
  unfold st
  cases hb' : leapY y with
  | true =>
   have hl' := hl.1 hb'
   rcases month_cases h1 h2 with rfl | rfl | rfl | rfl | rfl | rfl | rfl | rfl | rfl | rfl | rfl | rfl <;>
    simp [sy, sm, dim, hb'] at h4 ⊢ <;> omega
  | false =>
   have hl' : ¬ (y % 4 = 0 ∧ (y % 100 ≠ 0 ∨ y % 400 = 0)) := fun z => by rw [hl.2 z] at hb'; cases hb'
   rcases month_cases h1 h2 with rfl | rfl | rfl | rfl | rfl | rfl | rfl | rfl | rfl | rfl | rfl | rfl <;>
    simp [sy, sm, dim, hb'] at h4 ⊢ <;> omega
 have hst0 : 0 ≤ st (sy y m % 400) := by unfold st; omega
 have hN : numP y m d + 719468 = 146097 * (sy y m / 400) + (st (sy y m % 400) + ((153 * (sm m - 3) + 2) / 5 + d - 1)) := by unfold numP st; omega
 have hera : era (numP y m d) = sy y m / 400 := by unfold era; omega
 have hof : ofE (numP y m d) = st (sy y m % 400) + ((153 * (sm m - 3) + 2) / 5 + d - 1) := by unfold ofE; omega
 have hyrs : yrs (numP y m d) = sy y m % 400 := by
  unfold yrs
  rw [hof]
  refine year_of hb.1 hb.2 (by omega) ?_
  rcases hdoy.2.2 with h | h
  ·exact .inl h
  ·exact .inr ⟨h, hdoy.2.1⟩
 have hdy : doy (numP y m d) = (153 * (sm m - 3) + 2) / 5 + d - 1 := by unfold doy; rw [hof, hyrs]; omega
 have hdd := dim_bd y m
 have hmon : mon (numP y m d) = sm m - 3 := by
  unfold mon
  rw [hdy]
  rcases month_cases h1 h2 with rfl | rfl | rfl | rfl | rfl | rfl | rfl | rfl | rfl | rfl | rfl | rfl <;>
   simp [sm, dim] at h4 ⊢ <;> omega
 refine ⟨?_, ?_, ?_, ?_⟩
 ·rw [hdy]
  rcases month_cases h1 h2 with rfl | rfl | rfl | rfl | rfl | rfl | rfl | rfl | rfl | rfl | rfl | rfl <;>
   simp [sm, dim] at h4 ⊢ <;> omega
 ·unfold yearP
  rw [hera, hyrs, hmon]
  rcases month_cases h1 h2 with rfl | rfl | rfl | rfl | rfl | rfl | rfl | rfl | rfl | rfl | rfl | rfl <;>
   simp [sm, sy] <;> omega
 ·unfold monP
  rw [hmon]
  rcases month_cases h1 h2 with rfl | rfl | rfl | rfl | rfl | rfl | rfl | rfl | rfl | rfl | rfl | rfl <;> simp [sm]
 ·unfold dayP
  rw [hdy, hmon]
  omega
theorem date_num {y m d : Int} (h : Vld y m d) : yearP (num y m d) = y ∧ monP (num y m d) = m ∧ dayP (num y m d) = d := (date_num' h).2
theorem year_ex (n : Int) (h0 : fst 1 ≤ n) : ∀ k : Nat, n < fst (1 + k) → ∃ y : Int, 1 ≤ y ∧ y ≤ k ∧ fst y ≤ n ∧ n < fst (y + 1)
 | 0, h => by simp at h; omega
 | k + 1, h => by
  by_cases h1 : n < fst (1 + k)
  ·obtain ⟨y, a, b, c, d⟩ := year_ex n h0 k h1
   exact ⟨y, a, by omega, c, d⟩
  ·exact ⟨1 + k, by omega, by omega, by omega, by have e : ((k + 1 : Nat) : Int) = (k : Int) + 1 := rfl; rw [e] at h; rw [Int.add_assoc]; exact h⟩
theorem cum_mono (y m : Int) (h1 : 1 ≤ m) (h2 : m < 12) : cum y m + 28 ≤ cum y (m + 1) := by
 have := cum_succ y m h1 (by omega)
 rw [if_neg (by omega)] at this
 have := dim_bd y m
 omega
theorem month_ex (y r : Int) (h0 : 0 ≤ r) : ∀ k : Nat, k < 12 → r < cum y (1 + k) → ∃ m : Int, 1 ≤ m ∧ m ≤ k ∧ cum y m ≤ r ∧ r < cum y (m + 1)
 | 0, _, h => by simp [cum, cum0] at h; omega
 | k + 1, hk, h => by
  by_cases h1 : r < cum y (1 + k)
  ·obtain ⟨m, a, b, c, d⟩ := month_ex y r h0 k (by omega) h1
   exact ⟨m, a, by omega, c, d⟩
  ·exact ⟨1 + k, by omega, by omega, by omega, by have e : ((k + 1 : Nat) : Int) = (k : Int) + 1 := rfl; rw [e] at h; rw [Int.add_assoc]; exact h⟩
theorem date_ex {n : Int} (h0 : -719162 ≤ n) (h1 : n ≤ 2932896) : ∃ y m d, Vld y m d ∧ num y m d = n := by
 obtain ⟨y, a, b, c, e⟩ := year_ex n (by
                     have : fst 1 = -719162 := by decide
                     omega) 9999 (by
                             have : fst (1 + (9999 : Nat)) = 2932897 := by decide
                             omega)
 rw [fst_succ] at e
 by_cases h : n - fst y < cum y 12
 ·obtain ⟨m, a', b', c', e'⟩ := month_ex y (n - fst y) (by omega) 11 (by omega) h
  have hs := cum_succ y m a' (by omega)
  rw [if_neg (by omega)] at hs
  exact ⟨y, m, n - fst y - cum y m + 1, ⟨a, by omega, a', by omega, by omega, by omega⟩, by unfold num; omega⟩
 ·have hs := cum_succ y 12 (by omega) (by omega)
  rw [if_pos rfl] at hs
  exact ⟨y, 12, n - fst y - cum y 12 + 1, ⟨a, by omega, by omega, by omega, by omega, by omega⟩, by unfold num; omega⟩
theorem num_date {n : Int} (h0 : -719162 ≤ n) (h1 : n ≤ 2932896) : Vld (yearP n) (monP n) (dayP n) ∧ num (yearP n) (monP n) (dayP n) = n := by
 obtain ⟨y, m, d, hv, rfl⟩ := date_ex h0 h1
 obtain ⟨e1, e2, e3⟩ := date_num hv
 rw [e1, e2, e3]
 exact ⟨hv, rfl⟩
theorem doy_bd {n : Int} (h0 : -719162 ≤ n) (h1 : n ≤ 2932896) : 0 ≤ doy n ∧ doy n ≤ 365 := by
 obtain ⟨y, m, d, hv, rfl⟩ := date_ex h0 h1
 exact (date_num' hv).1
/-- A day's place in the week, from Sunday on. -/
def wk (n : Int) : Int := (n + 4) % 7
end Go.Proofs.YtenaflbcnkalbaaGreatDoor.Pl
end
section
set_option linter.unusedVariables false
set_option linter.unusedSimpArgs false
namespace Go.Proofs.YtenaflbcnkalbaaGreatDoor.Pl
open Go
def rightR (K A B C X : Int) : Bool :=
 decide ((-604799 ≤ X ∧ X ≤ 604799) ∧ ((K = 0 ∧ 1 ≤ A ∧ A ≤ 12 ∧ 1 ≤ B ∧ B ≤ 5 ∧ 0 ≤ C ∧ C ≤ 6) ∨ (K = 1 ∧ 1 ≤ A ∧ A ≤ 365 ∧ B = 0 ∧ C = 0) ∨ (K = 2 ∧ 0 ≤ A ∧ A ≤ 365 ∧ B = 0 ∧ C = 0)))
theorem right_iff (K A B C X : Int) : rightR K A B C X = true ↔ ((-604799 ≤ X ∧ X ≤ 604799) ∧ ((K = 0 ∧ 1 ≤ A ∧ A ≤ 12 ∧ 1 ≤ B ∧ B ≤ 5 ∧ 0 ≤ C ∧ C ≤ 6) ∨ (K = 1 ∧ 1 ≤ A ∧ A ≤ 365 ∧ B = 0 ∧ C = 0) ∨ (K = 2 ∧ 0 ≤ A ∧ A ≤ 365 ∧ B = 0 ∧ C = 0))) := by
 unfold rightR; exact decide_eq_true_iff
/-- The place of a rule's day in its month, from 0 on. -/
def offW (A B C y : Int) : Int := let k := (C - wk (num y A 1) + 7) % 7 + 7 * (B - 1); if k ≥ dim y A then k - 7 else k
def ruleDay (K A B C y : Int) : Int := if K = 2 then fst y + A else if K = 1 then (if A ≤ 59 ∨ leapY y = false then fst y - 1 + A else fst y + A) else num y A 1 + offW A B C y
theorem num_first (y : Int) : num y 1 1 = fst y := by unfold num cum cum0; simp
theorem dim_jan (y : Int) : dim y 1 = 31 := rfl
theorem off_bd {A B C y : Int} (h1 : 1 ≤ B) (h2 : B ≤ 5) : 0 ≤ offW A B C y ∧ offW A B C y < dim y A ∧ offW A B C y % 7 = (C - wk (num y A 1) + 7) % 7 := by
 have hd := dim_bd y A
 have hw : 0 ≤ wk (num y A 1) ∧ wk (num y A 1) < 7 := by unfold wk; omega
 unfold offW
 simp only []
 split <;> omega
theorem ruleDay_bd {K A B C X y : Int} (hy : 1 ≤ y ∧ y ≤ 9999) (hr : rightR K A B C X = true) : fst y ≤ ruleDay K A B C y ∧ ruleDay K A B C y ≤ fst y + 365 := by
 have hr' := (right_iff K A B C X).1 hr
 unfold ruleDay
 split
 ·omega
 ·split
  ·split <;> omega
  ·have hK : K = 0 ∧ 1 ≤ A ∧ A ≤ 12 ∧ 1 ≤ B ∧ B ≤ 5 ∧ 0 ≤ C ∧ C ≤ 6 := by omega
   obtain ⟨o1, o2, _⟩ := off_bd (A := A) (C := C) (y := y) hK.2.2.2.1 hK.2.2.2.2.1
   have hv : Vld y A (offW A B C y + 1) := ⟨hy.1, hy.2, hK.2.1, hK.2.2.1, by omega, by omega⟩
   have := num_bd hv
   rw [fst_succ] at this
   have e : num y A (offW A B C y + 1) = num y A 1 + offW A B C y := by unfold num; omega
   rw [e] at this
   split at this <;> omega
def cutP (c : UInt8) (l : List UInt8) : List UInt8 × Bool := if l.head? = some c then (l.tail, true) else (l, false)
theorem cut_drop (c : UInt8) (l : List UInt8) : ∃ j, j ≤ l.length ∧ (cutP c l).1 = l.drop j := by
 unfold cutP
 split
 ·cases l with
  | nil => rename_i h; simp at h
  | cons a r => exact ⟨1, by simp, rfl⟩
 ·exact ⟨0, by omega, rfl⟩
/-- A number of so many digits at most. -/
def numberL (l : List UInt8) (m : Nat) : Int × List UInt8 × Bool := if dl l = 0 ∨ m < dl l then (0, l, false) else ((valL (l.take (dl l)) : Int), l.drop (dl l), true)
theorem numberL_drop (l : List UInt8) (m : Nat) : ∃ j, j ≤ l.length ∧ (numberL l m).2.1 = l.drop j ∧ ((numberL l m).2.2 = true → 0 < j) := by
 unfold numberL
 split
 ·exact ⟨0, by omega, rfl, by simp⟩
 ·exact ⟨dl l, dl_le l, rfl, fun _ => by omega⟩
theorem numberL_bd (l : List UInt8) (m : Nat) : 0 ≤ (numberL l m).1 ∧ ((numberL l m).1 : Int) < ((10 ^ m : Nat) : Int) := by
 unfold numberL
 have h1 : 0 < 10 ^ m := Nat.pos_of_ne_zero (by simp)
 split
 ·simp only []; omega
 ·rename_i h
  have hv := valL_lt _ (take_dl_dig l _ (Nat.le_refl _))
  have h2 : 10 ^ (l.take (dl l)).length ≤ 10 ^ m := Nat.pow_le_pow_right (by omega) (by rw [List.length_take]; omega)
  simp only []; omega
def weekL (l : List UInt8) : Int × Int × Int × List UInt8 × Bool :=
 ((numberL l 2).1, (numberL (cutP 46 (numberL l 2).2.1).1 1).1, (numberL (cutP 46 (numberL (cutP 46 (numberL l 2).2.1).1 1).2.1).1 1).1,
  (numberL (cutP 46 (numberL (cutP 46 (numberL l 2).2.1).1 1).2.1).1 1).2.1,
  (numberL l 2).2.2 && (numberL (cutP 46 (numberL l 2).2.1).1 1).2.2 && (numberL (cutP 46 (numberL (cutP 46 (numberL l 2).2.1).1 1).2.1).1 1).2.2 && (cutP 46 (numberL l 2).2.1).2 && (cutP 46 (numberL (cutP 46 (numberL l 2).2.1).1 1).2.1).2)
theorem weekL_drop (l : List UInt8) : ∃ j, j ≤ l.length ∧ (weekL l).2.2.2.1 = l.drop j ∧ ((weekL l).2.2.2.2 = true → 0 < j) := by
 unfold weekL
 obtain ⟨j1, h1, e1, p1⟩ := numberL_drop l 2
 obtain ⟨j2, h2, e2⟩ := cut_drop 46 (numberL l 2).2.1
 obtain ⟨j3, h3, e3, _⟩ := numberL_drop (cutP 46 (numberL l 2).2.1).1 1
 obtain ⟨j4, h4, e4⟩ := cut_drop 46 (numberL (cutP 46 (numberL l 2).2.1).1 1).2.1
 obtain ⟨j5, h5, e5, _⟩ := numberL_drop (cutP 46 (numberL (cutP 46 (numberL l 2).2.1).1 1).2.1).1 1
 refine ⟨j1 + j2 + j3 + j4 + j5, ?_, ?_, ?_⟩
 ·rw [e4, List.length_drop, e3, List.length_drop, e2, List.length_drop, e1, List.length_drop] at h5
  rw [e3, List.length_drop, e2, List.length_drop, e1, List.length_drop] at h4
  rw [e2, List.length_drop, e1, List.length_drop] at h3
  rw [e1, List.length_drop] at h2
  omega
 ·simp only []
  rw [e5, e4, e3, e2, e1]
  simp only [List.drop_drop]
 ·intro h
  simp only [Bool.and_eq_true] at h
  have := p1 h.1.1.1.1
  omega
/-- A rule without its time. -/
def dateL (l : List UInt8) : Int × Int × Int × Int × List UInt8 × Bool :=
 if l.head? = some 77 then (0, weekL l.tail) else if l.head? = some 74 then (1, (numberL l.tail 3).1, 0, 0, (numberL l.tail 3).2) else (2, (numberL l 3).1, 0, 0, (numberL l 3).2)
theorem dateL_drop (l : List UInt8) : ∃ j, j ≤ l.length ∧ (dateL l).2.2.2.2.1 = l.drop j ∧ ((dateL l).2.2.2.2.2 = true → 0 < j) := by
 unfold dateL
 by_cases h : l.head? = some 77
 ·rw [if_pos h]
  obtain ⟨a, r, rfl⟩ : ∃ a r, l = a :: r := by cases l with | nil => simp at h | cons a r => exact ⟨a, r, rfl⟩
  obtain ⟨j, hj, e, _⟩ := weekL_drop r
  exact ⟨j + 1, by simp; omega, e, fun _ => by omega⟩
 ·rw [if_neg h]
  by_cases h' : l.head? = some 74
  ·rw [if_pos h']
   obtain ⟨a, r, rfl⟩ : ∃ a r, l = a :: r := by cases l with | nil => simp at h' | cons a r => exact ⟨a, r, rfl⟩
   obtain ⟨j, hj, e, _⟩ := numberL_drop r 3
   exact ⟨j + 1, by simp; omega, e, fun _ => by omega⟩
  ·rw [if_neg h']
   exact numberL_drop l 3
/-- A rule. -/
def parseL (l : List UInt8) : Int × Int × Int × Int × Int × List UInt8 × Bool :=
 if (dateL l).2.2.2.2.2 = true then
  (if (dateL l).2.2.2.2.1.head? = some 47 then
   (if (timeL (dateL l).2.2.2.2.1.tail).2.2 = true ∧ rightR (dateL l).1 (dateL l).2.1 (dateL l).2.2.1 (dateL l).2.2.2.1 (timeL (dateL l).2.2.2.2.1.tail).1 = true then
    ((dateL l).1, (dateL l).2.1, (dateL l).2.2.1, (dateL l).2.2.2.1, (timeL (dateL l).2.2.2.2.1.tail).1, (timeL (dateL l).2.2.2.2.1.tail).2.1, true) else (0, 0, 0, 0, 0, l, false))
  else if rightR (dateL l).1 (dateL l).2.1 (dateL l).2.2.1 (dateL l).2.2.2.1 7200 = true then
   ((dateL l).1, (dateL l).2.1, (dateL l).2.2.1, (dateL l).2.2.2.1, 7200, (dateL l).2.2.2.2.1, true) else (0, 0, 0, 0, 0, l, false))
 else (0, 0, 0, 0, 0, l, false)
theorem parse_good (l : List UInt8) (h : (parseL l).2.2.2.2.2.2 = true) :
  rightR (parseL l).1 (parseL l).2.1 (parseL l).2.2.1 (parseL l).2.2.2.1 (parseL l).2.2.2.2.1 = true ∧ ∃ j, 0 < j ∧ j ≤ l.length ∧ (parseL l).2.2.2.2.2.1 = l.drop j := by
 obtain ⟨j, hj, e, hp⟩ := dateL_drop l
 revert h
 unfold parseL
 by_cases hok : (dateL l).2.2.2.2.2 = true
 ·have hp := hp hok
  rw [if_pos hok]
  by_cases hc : (dateL l).2.2.2.2.1.head? = some 47
  ·rw [if_pos hc]
   by_cases hR : (timeL (dateL l).2.2.2.2.1.tail).2.2 = true ∧ rightR (dateL l).1 (dateL l).2.1 (dateL l).2.2.1 (dateL l).2.2.2.1 (timeL (dateL l).2.2.2.2.1.tail).1 = true
   ·rw [if_pos hR]
    intro _
    obtain ⟨i, hi, ei, _⟩ := time_drop (dateL l).2.2.2.2.1.tail
    refine ⟨hR.2, j + 1 + i, by omega, ?_, ?_⟩
    ·rw [List.length_tail, e, List.length_drop] at hi
     have : (dateL l).2.2.2.2.1.length ≠ 0 := by intro h0; rw [List.eq_nil_of_length_eq_zero h0] at hc; simp at hc
     rw [e, List.length_drop] at this
     omega
    ·simp only []
     rw [ei, e, ← List.drop_one, List.drop_drop, List.drop_drop]
     congr 1; omega
   ·rw [if_neg hR]; intro h; simp at h
  ·rw [if_neg hc]
   by_cases hR : rightR (dateL l).1 (dateL l).2.1 (dateL l).2.2.1 (dateL l).2.2.2.1 7200 = true
   ·rw [if_pos hR]
    intro _
    exact ⟨hR, j, hp, hj, e⟩
   ·rw [if_neg hR]; intro h; simp at h
 ·rw [if_neg hok]; intro h; simp at h
theorem parse_bad (l : List UInt8) (h : (parseL l).2.2.2.2.2.2 = false) : parseL l = (0, 0, 0, 0, 0, l, false) := by
 revert h
 unfold parseL
 split
 ·split
  ·split
   ·intro h; simp at h
   ·intro _; rfl
  ·split
   ·intro h; simp at h
   ·intro _; rfl
 ·intro _; rfl
/-- A rule's text. -/
def headL (K A B C : Int) : List UInt8 := if K = 0 then 77 :: (itoaK A ++ 46 :: (itoaK B ++ 46 :: itoaK C)) else if K = 1 then 74 :: itoaK A else itoaK A
def tailL (X : Int) : List UInt8 := if X = 7200 then [] else 47 :: (clockL X).1
def textL (K A B C X : Int) : List UInt8 × Bool := if rightR K A B C X = true then (headL K A B C ++ tailL X, true) else ([], false)
end Go.Proofs.YtenaflbcnkalbaaGreatDoor.Pl
end
section
set_option linter.unusedVariables false
set_option linter.unusedSimpArgs false
namespace Go.Proofs.YtenaflbcnkalbaaGreatDoor.Pl
open Go
theorem sixty_no {c a b : UInt8} {r : List UInt8} (h : ¬ (c = 58 ∧ isDig a = true ∧ isDig b = true ∧ a.toNat ≤ 53)) : sixtyL (c :: a :: b :: r) = (0, c :: a :: b :: r, false) := if_neg h
theorem sixty_yes {c a b : UInt8} {r : List UInt8} (h : c = 58 ∧ isDig a = true ∧ isDig b = true ∧ a.toNat ≤ 53) : sixtyL (c :: a :: b :: r) = (10 * ((a.toNat : Int) - 48) + ((b.toNat : Int) - 48), r, true) := if_pos h
theorem isDig_iff (a : UInt8) : isDig a = true ↔ 48 ≤ a.toNat ∧ a.toNat ≤ 57 := by unfold isDig; simp
theorem valL_snoc (a : List UInt8) (c : UInt8) : valL (a ++ [c]) = 10 * valL a + (c.toNat - 48) := by simp [valL, List.foldl_append]
theorem take_succ_at (l : List UInt8) (j : Nat) (h : j < l.length) : l.take (j + 1) = l.take j ++ [l[j]] := (List.take_append_getElem h).symm
theorem dl_digit (l : List UInt8) : ∀ j (h : j < dl l), isDig (l[j]'(Nat.lt_of_lt_of_le h (dl_le l))) = true := by
 intro j h
 have hl := dl_le l
 have := take_dl_dig l (j + 1) (by omega)
 rw [take_succ_at l j (by omega)] at this
 exact this _ (List.mem_append_right _ (List.mem_singleton.2 rfl))
theorem dl_stop (l : List UInt8) (h : dl l < l.length) : isDig l[dl l] = false := by
 induction l with
 | nil => simp at h
 | cons a r ih =>
  by_cases ha : isDig a = true
  ·have e : dl (a :: r) = dl r + 1 := by rw [dl_cons, if_pos ha]
   have h' : dl r < r.length := by rw [e] at h; simpa using h
   have := ih h'
   simp only [e, List.getElem_cons_succ]
   exact this
  ·have e : dl (a :: r) = 0 := by rw [dl_cons, if_neg ha]
   simp only [e, List.getElem_cons_zero]
   simpa using ha
def refNum (l : List UInt8) (m hi : Nat) : Int × List UInt8 := if dl l = 0 ∨ m < dl l ∨ hi < valL (l.take (dl l)) then (-1, l) else ((valL (l.take (dl l)) : Int), l.drop (dl l))
theorem refNum_yes {l : List UInt8} {m hi : Nat} (h : 0 ≤ (refNum l m hi).1) : numberL l m = ((refNum l m hi).1, (refNum l m hi).2, true) := by
 unfold refNum at h ⊢
 unfold numberL
 by_cases c : dl l = 0 ∨ m < dl l ∨ hi < valL (l.take (dl l))
 ·rw [if_pos c] at h; simp at h
 ·rw [if_neg c, if_neg (by omega)]
theorem refNum_of {l : List UInt8} {m hi : Nat} (h : (numberL l m).2.2 = true) (hv : (numberL l m).1 ≤ (hi : Int)) : refNum l m hi = ((numberL l m).1, (numberL l m).2.1) := by
 unfold numberL at h hv ⊢
 unfold refNum
 by_cases c : dl l = 0 ∨ m < dl l
 ·rw [if_pos c] at h; cases h
 ·rw [if_neg c] at hv ⊢
  rw [if_neg (by simp only [] at hv; omega)]
def refDot (l : List UInt8) : Int × List UInt8 := if l.head? = some 46 then refNum l.tail 1 9 else (-1, l)
def refHead (l : List UInt8) : Int × Int × Int × Int × List UInt8 :=
 if l.head? = some 77 then (0, (refNum l.tail 2 12).1, (refDot (refNum l.tail 2 12).2).1, refDot (refDot (refNum l.tail 2 12).2).2)
 else if l.head? = some 74 then (1, (refNum l.tail 3 365).1, 0, 0, (refNum l.tail 3 365).2) else (2, (refNum l 3 365).1, 0, 0, (refNum l 3 365).2)
theorem dot_yes {l : List UInt8} (h : 0 ≤ (refDot l).1) : cutP 46 l = (l.tail, true) ∧ numberL l.tail 1 = ((refDot l).1, (refDot l).2, true) := by
 unfold refDot at h ⊢
 unfold cutP
 by_cases c : l.head? = some 46
 ·rw [if_pos c] at h ⊢
  rw [if_pos c]
  exact ⟨rfl, refNum_yes h⟩
 ·rw [if_neg c] at h; simp at h
theorem dot_of {l : List UInt8} (h1 : (cutP 46 l).2 = true) (h2 : (numberL (cutP 46 l).1 1).2.2 = true) : refDot l = ((numberL (cutP 46 l).1 1).1, (numberL (cutP 46 l).1 1).2.1) := by
 unfold cutP at h1 h2 ⊢
 unfold refDot
 by_cases c : l.head? = some 46
 ·rw [if_pos c] at h2 ⊢
  rw [if_pos c]
  have hb := numberL_bd l.tail 1
  exact refNum_of h2 (by have h3 := hb.2; rw [show ((10 ^ 1 : Nat) : Int) = 10 from rfl] at h3; omega)
 ·rw [if_neg c] at h1; cases h1
theorem head_yes (l : List UInt8) (h : rightR (refHead l).1 (refHead l).2.1 (refHead l).2.2.1 (refHead l).2.2.2.1 7200 = true) :
  dateL l = ((refHead l).1, (refHead l).2.1, (refHead l).2.2.1, (refHead l).2.2.2.1, (refHead l).2.2.2.2, true) := by
 have hr := (right_iff _ _ _ _ _).1 h
 revert hr
 unfold refHead dateL
 by_cases h77 : l.head? = some 77
 ·rw [if_pos h77, if_pos h77]
  simp only []
  intro hr
  have y1 := refNum_yes (l := l.tail) (m := 2) (hi := 12) (by omega)
  have y2 := dot_yes (l := (refNum l.tail 2 12).2) (by omega)
  have y3 := dot_yes (l := (refDot (refNum l.tail 2 12).2).2) (by omega)
  unfold weekL
  rw [y1]
  simp only []
  rw [y2.1]
  simp only []
  rw [y2.2]
  simp only []
  rw [y3.1]
  simp only []
  rw [y3.2]
  rfl
 ·rw [if_neg h77, if_neg h77]
  by_cases h74 : l.head? = some 74
  ·rw [if_pos h74, if_pos h74]
   simp only []
   intro hr
   rw [refNum_yes (l := l.tail) (m := 3) (hi := 365) (by omega)]
  ·rw [if_neg h74, if_neg h74]
   simp only []
   intro hr
   rw [refNum_yes (l := l) (m := 3) (hi := 365) (by omega)]
theorem head_of (l : List UInt8) (ho : (dateL l).2.2.2.2.2 = true) (h : rightR (dateL l).1 (dateL l).2.1 (dateL l).2.2.1 (dateL l).2.2.2.1 7200 = true) :
  refHead l = ((dateL l).1, (dateL l).2.1, (dateL l).2.2.1, (dateL l).2.2.2.1, (dateL l).2.2.2.2.1) := by
 have hr := (right_iff _ _ _ _ _).1 h
 revert hr ho
 unfold refHead dateL
 by_cases h77 : l.head? = some 77
 ·rw [if_pos h77, if_pos h77]
  simp only []
  unfold weekL
  simp only [Bool.and_eq_true]
  intro ho hr
  have z1 := refNum_of (l := l.tail) (m := 2) (hi := 12) ho.1.1.1.1 (by omega)
  rw [z1]
  simp only []
  have z2 := dot_of ho.1.2 ho.1.1.1.2
  rw [z2]
  simp only []
  have z3 := dot_of ho.2 ho.1.1.2
  rw [z3]
 ·rw [if_neg h77, if_neg h77]
  by_cases h74 : l.head? = some 74
  ·rw [if_pos h74, if_pos h74]
   simp only []
   intro ho hr
   rw [refNum_of (l := l.tail) (m := 3) (hi := 365) ho (by omega)]
  ·rw [if_neg h74, if_neg h74]
   simp only []
   intro ho hr
   rw [refNum_of (l := l) (m := 3) (hi := 365) ho (by omega)]
theorem right_sec (K A B C X Y : Int) (hX : -604799 ≤ X ∧ X ≤ 604799) (hY : -604799 ≤ Y ∧ Y ≤ 604799) : rightR K A B C X = rightR K A B C Y := by
 rw [Bool.eq_iff_iff, right_iff, right_iff]
 constructor
 ·intro h; exact ⟨hY, h.2⟩
 ·intro h; exact ⟨hX, h.2⟩
theorem cum_one (y : Int) : cum y 1 = 0 := by unfold cum cum0; simp
/-- How many days of the weekday there are among the first t ones of the month, if r days are ahead of the first one. -/
def hits (r t : Int) : Int := (t + 6 - r) / 7
def manyW (r B t : Int) : Int := if hits r t ≤ B then hits r t else B
def atW (n r B t : Int) : Int := if manyW r B t = 0 then -1 else n + r + 7 * (manyW r B t - 1)
end Go.Proofs.YtenaflbcnkalbaaGreatDoor.Pl
end
section
set_option linter.unusedVariables false
set_option linter.unusedSimpArgs false
namespace Go.Proofs.YtenaflbcnkalbaaGreatDoor.Pl
open Go Go.Proofs.YtenaflbcnkalbaaGreatDoor.Eng
theorem ifT {c : Prop} [Decidable c] {a b : Prop} (h : c) (ha : a) : if c then a else b := by rw [if_pos h]; exact ha
theorem ifF {c : Prop} [Decidable c] {a b : Prop} (h : ¬ c) (hb : b) : if c then a else b := by rw [if_neg h]; exact hb
theorem ifC {c : Prop} [Decidable c] {a b : Prop} (h1 : c → a) (h2 : ¬ c → b) : if c then a else b := by
 by_cases h : c
 ·exact ifT h (h1 h)
 ·exact ifF h (h2 h)
theorem w64_in {n : Int} (h0 : -9223372036854775808 ≤ n) (h1 : n ≤ 9223372036854775807) : w64 n = n := by
 simp only [w64, IntKind.wrap, IntKind.bits, IntKind.signed]
 try simp
 try omega
theorem bAt_S (l : List UInt8) (i : Nat) : Eng.bAt (S l) i = ((l.getD i 0).toNat : Int) := rfl
theorem bAt0 (c : UInt8) (l : List UInt8) : Eng.bAt (S (c :: l)) 0 = (c.toNat : Int) := rfl
theorem bAt1 (a c : UInt8) (l : List UInt8) : Eng.bAt (S (a :: c :: l)) 1 = (c.toNat : Int) := rfl
theorem bAt2 (a b c : UInt8) (l : List UInt8) : Eng.bAt (S (a :: b :: c :: l)) 2 = (c.toNat : Int) := rfl
theorem lp_ind {α : Type} {F : (α → Prop) → α → Prop} (μ : α → Nat) (I : α → Prop) (h : ∀ x, I x → ∀ k : α → Prop, (∀ y, I y → μ y < μ x → k y) → F k x) {x : α} (hx : I x) : Eng.lp F x := by
 have key : ∀ n x, I x → μ x < n → itrT F n x := by
  intro n
  induction n with
  | zero => intro x _ hn; omega
  | succ n ih => intro x hx hn; exact h x hx _ fun y hy hlt => ih y hy (by omega)
 exact ⟨μ x + 1, key _ _ hx (Nat.lt_succ_self _)⟩
theorem lp_nat {α : Type} {F : (α → Prop) → α → Prop} (st : Nat → α) (N : Nat) (h : ∀ n, n ≤ N → ∀ k : α → Prop, (n < N → k (st (n + 1))) → F k (st n)) : Eng.lp F (st 0) := by
 have key : ∀ d n, n + d = N → itrT F (d + 1) (st n) := by
  intro d
  induction d with
  | zero => intro n hn; exact h n (by omega) _ fun hlt => by omega
  | succ d ih => intro n hn; exact h n (by omega) _ fun hlt => ih (n + 1) (by omega)
 exact ⟨N + 1, key N 0 (by omega)⟩
theorem lp_at {α : Type} {F : (α → Prop) → α → Prop} {x : α} (st : Nat → α) (N : Nat) (h0 : x = st 0) (h : ∀ n, n ≤ N → ∀ k : α → Prop, (n < N → k (st (n + 1))) → F k (st n)) : Eng.lp F x := by
 rw [h0]; exact lp_nat st N h
/-- How many of a list's first elements are not such. -/
def nl (q : UInt8 → Bool) (l : List UInt8) : Nat := (l.takeWhile fun c => !q c).length
theorem nl_le (q : UInt8 → Bool) (l : List UInt8) : nl q l ≤ l.length := by unfold nl; exact (List.takeWhile_sublist _).length_le
theorem nl_cons (q : UInt8 → Bool) (c : UInt8) (l : List UInt8) : nl q (c :: l) = if q c = true then 0 else nl q l + 1 := by
 unfold nl; rw [List.takeWhile_cons]; cases q c <;> simp
theorem nl_any (q : UInt8 → Bool) (l : List UInt8) : l.any q = decide (nl q l < l.length) := by
 induction l with
 | nil => rfl
 | cons c l ih =>
  rw [List.any_cons, nl_cons, ih]
  cases q c <;> simp
theorem nl_of (q : UInt8 → Bool) : ∀ (l : List UInt8) (k : Nat), k ≤ l.length → (∀ c ∈ l.take k, q c = false) → (∀ h : k < l.length, q l[k] = true) → nl q l = k
 | [], k, hk, _, _ => by simp at hk; subst hk; rfl
 | c :: l, 0, _, _, h => by
  have h0 : q c = true := h (by simp)
  rw [nl_cons, if_pos h0]
 | c :: l, k + 1, hk, h1, h2 => by
  have hc := h1 c (by simp)
  rw [nl_cons, if_neg (by rw [hc]; simp), nl_of q l k (by simpa using hk) (fun d hd => h1 d (by rw [List.take_succ_cons]; exact .tail _ hd)) (fun h => by have := h2 (by simpa using h); simpa using this)]
theorem nl_spec (q : UInt8 → Bool) : ∀ (l : List UInt8) (j : Nat) (h : j < l.length), (j < nl q l → q l[j] = false) ∧ (j = nl q l → q l[j] = true)
 | [], j, h => by simp at h
 | c :: l, 0, _ => by
  rw [nl_cons]
  cases hq : q c
  ·exact ⟨fun _ => hq, fun h => by simp at h⟩
  ·exact ⟨fun h => by simp at h, fun _ => hq⟩
 | c :: l, j + 1, h => by
  have ih := nl_spec q l j (by simpa using h)
  rw [nl_cons]
  cases hq : q c
  ·simp only [Bool.false_eq_true, if_false, List.getElem_cons_succ]
   exact ⟨fun h => ih.1 (by omega), fun h => ih.2 (by omega)⟩
  ·exact ⟨fun h => by simp at h, fun h => by simp at h⟩
theorem indexByte_nl (l : List UInt8) (c : UInt8) : Lib.indexByte l c = if nl (· == c) l < l.length then (nl (· == c) l : Int) else -1 := by
 induction l with
 | nil => rfl
 | cons b l ih =>
  rw [Lib.indexByte, nl_cons, ih]
  cases hb : (b == c)
  ·simp only [Bool.false_eq_true, if_false, List.length_cons]
   by_cases h : nl (· == c) l < l.length
   ·rw [if_pos h, if_neg (by simp), if_pos (by omega)]; omega
   ·rw [if_neg h, if_pos (by simp), if_neg (by omega)]
  ·simp
theorem decode_lo (l : List UInt8) (pos : Nat) (h : pos < l.length) (ha : l[pos].toNat < 128) : Utf8.decode (S l) pos = (l[pos].toNat, 1) := decode_ascii (S l) pos (by rw [S_size]; exact h) ha
theorem decode_hi (l : List UInt8) (pos : Nat) (h : pos < l.length) (ha : 128 ≤ l[pos].toNat) : 128 ≤ (Utf8.decode (S l) pos).1 ∧ 1 ≤ (Utf8.decode (S l) pos).2 := decode_high (S l) pos (by rw [S_size]; exact h) ha
end Go.Proofs.YtenaflbcnkalbaaGreatDoor.Pl
end
section
set_option linter.unusedVariables false
set_option linter.unusedSimpArgs false
namespace Go.Proofs.YtenaflbcnkalbaaGreatDoor.Pl
open Go
/-- A text, cut at a sign. -/
def splitL (c : UInt8) (l : List UInt8) : List UInt8 × List UInt8 × Bool := if nl (· == c) l < l.length then (l.take (nl (· == c) l), l.drop (nl (· == c) l + 1), true) else (l, [], false)
/-- A sign that may not be in a name; one that is a letter; names of local times. -/
def badC (c : UInt8) : Bool := !((97 ≤ c.toNat && c.toNat ≤ 122) || (65 ≤ c.toNat && c.toNat ≤ 90) || (48 ≤ c.toNat && c.toNat ≤ 57) || c.toNat == 43 || c.toNat == 45)
def letC (c : UInt8) : Bool := (97 ≤ c.toNat && c.toNat ≤ 122) || (65 ≤ c.toNat && c.toNat ≤ 90)
def abbrL (l : List UInt8) : Bool := decide (3 ≤ l.length ∧ l.length ≤ 16) && !l.any badC
theorem sixty_bad (l : List UInt8) (h : (sixtyL l).2.2 = false) : (sixtyL l).1 = 0 ∧ (sixtyL l).2.1 = l := by
 match l, h with
 | [], _ => exact ⟨rfl, rfl⟩
 | [_], _ => exact ⟨rfl, rfl⟩
 | [_, _], _ => exact ⟨rfl, rfl⟩
 | c :: a :: b :: r, h =>
  by_cases hh : c = 58 ∧ isDig a = true ∧ isDig b = true ∧ a.toNat ≤ 53
  ·rw [sixty_yes hh] at h; cases h
  ·rw [sixty_no hh]; exact ⟨rfl, rfl⟩
structure Ru where
 k : Int
 a : Int
 b : Int
 c : Int
 x : Int
def Ru.z : Ru := ⟨0, 0, 0, 0, 0⟩
def Ru.ok (r : Ru) : Bool := rightR r.k r.a r.b r.c r.x
def Ru.txt (r : Ru) : List UInt8 := (textL r.k r.a r.b r.c r.x).1
def Ru.at (r : Ru) (y : Int) : Int := ruleDay r.k r.a r.b r.c y * 86400 + r.x
structure Ft where
 so : Int
 sd : Bool
 sa : List UInt8
 wo : Int
 wd : Bool
 wa : List UInt8
 has : Bool
 fr : Ru
 to : Ru
def Ft.z : Ft := ⟨0, false, [], 0, false, [], false, .z, .z⟩
def kindR (o : Int) (d : Bool) (l : List UInt8) (w : Bool) : Bool := abbrL l && (d == w) && decide (-89999 ≤ o ∧ o ≤ 89999)
def Ft.bare (f : Ft) : Prop := f.wo = 0 ∧ f.wd = false ∧ f.wa = [] ∧ (f.fr.k = 0 ∧ f.fr.a = 0 ∧ f.fr.b = 0 ∧ f.fr.c = 0 ∧ f.fr.x = 0) ∧ (f.to.k = 0 ∧ f.to.a = 0 ∧ f.to.b = 0 ∧ f.to.c = 0 ∧ f.to.x = 0)
instance (f : Ft) : Decidable f.bare := inferInstanceAs (Decidable (_ ∧ _))
def Ft.ok (f : Ft) : Bool := kindR f.so f.sd f.sa false && (if f.has = true then kindR f.wo f.wd f.wa true && f.fr.ok && f.to.ok else decide f.bare)
def nameT (l : List UInt8) : List UInt8 := if l.any (fun c => !letC c) = true then 60 :: (l ++ [62]) else l
def Ft.txt (f : Ft) : List UInt8 := nameT f.sa ++ ((clockL (-f.so)).1 ++ (if f.has = true then nameT f.wa ++ ((if f.wo - f.so ≠ 3600 then (clockL (-f.wo)).1 else []) ++ 44 :: (f.fr.txt ++ 44 :: f.to.txt)) else []))
def Ft.text (f : Ft) : List UInt8 × Bool := if f.ok = true then (f.txt, true) else ([], false)
/-- A name that is read: it, whether it may be, what is behind it. -/
def nameP (l : List UInt8) : List UInt8 × Bool × List UInt8 :=
 if l.head? = some 60 then ((splitL 62 l.tail).1, (splitL 62 l.tail).2.2 && abbrL (splitL 62 l.tail).1, (splitL 62 l.tail).2.1)
 else (l.take (nl (fun c => !letC c) l), abbrL (l.take (nl (fun c => !letC c) l)), l.drop (nl (fun c => !letC c) l))
structure Us where
 ok : Bool
 rest : List UInt8
 o : Int
 a : List UInt8
def usualP (l : List UInt8) : Us := ⟨(nameP l).2.1 && (timeL (nameP l).2.2).2.2, (timeL (nameP l).2.2).2.1, -(timeL (nameP l).2.2).1, (nameP l).1⟩
def summerP (so : Int) (l : List UInt8) : Us :=
 if (timeL (nameP l).2.2).2.2 = true then ⟨(nameP l).2.1, (timeL (nameP l).2.2).2.1, -(timeL (nameP l).2.2).1, (nameP l).1⟩ else ⟨(nameP l).2.1, (nameP l).2.2, so + 3600, (nameP l).1⟩
structure Rp where
 ok : Bool
 rest : List UInt8
 r : Ru
def ruleP (l : List UInt8) : Rp := ⟨(parseL (cutP 44 l).1).2.2.2.2.2.2 && (cutP 44 l).2, (parseL (cutP 44 l).1).2.2.2.2.2.1, ⟨(parseL (cutP 44 l).1).1, (parseL (cutP 44 l).1).2.1, (parseL (cutP 44 l).1).2.2.1, (parseL (cutP 44 l).1).2.2.2.1, (parseL (cutP 44 l).1).2.2.2.2.1⟩⟩
def Ft.chk (f : Ft) : Ft × Bool := if f.ok = true then (f, true) else (.z, false)
def Ft.parse (l : List UInt8) : Ft × Bool :=
 if (usualP l).ok = true then
  (if (usualP l).rest = [] then Ft.chk ⟨(usualP l).o, false, (usualP l).a, 0, false, [], false, .z, .z⟩
  else if (summerP (usualP l).o (usualP l).rest).ok = true then
   (if (ruleP (summerP (usualP l).o (usualP l).rest).rest).ok = true then
    (if (ruleP (ruleP (summerP (usualP l).o (usualP l).rest).rest).rest).ok = true then
     (if (ruleP (ruleP (summerP (usualP l).o (usualP l).rest).rest).rest).rest = [] then
      Ft.chk ⟨(usualP l).o, false, (usualP l).a, (summerP (usualP l).o (usualP l).rest).o, true, (summerP (usualP l).o (usualP l).rest).a, true, (ruleP (summerP (usualP l).o (usualP l).rest).rest).r, (ruleP (ruleP (summerP (usualP l).o (usualP l).rest).rest).rest).r⟩
     else (.z, false)) else (.z, false)) else (.z, false)) else (.z, false))
 else (.z, false)
/-- When the summer's time holds in a year. -/
def Ft.spans (f : Ft) (y : Int) : Prop := f.has = true ∧ f.ok = true ∧ 1 ≤ y ∧ y ≤ 9999
instance (f : Ft) (y : Int) : Decidable (f.spans y) := inferInstanceAs (Decidable (_ ∧ _))
def Ft.from' (f : Ft) (y : Int) : Int := f.fr.at y - f.so
def Ft.to' (f : Ft) (y : Int) : Int := f.to.at y - f.wo
/-- Whether a second's year is known; whether the summer's time holds. -/
def inDays (n : Int) : Prop := -719162 ≤ n / 86400 ∧ n / 86400 ≤ 2932896
instance (n : Int) : Decidable (inDays n) := inferInstanceAs (Decidable (_ ∧ _))
def Ft.sum (f : Ft) (p : Int) : Prop := inDays (p + f.so) ∧ f.spans (yearP ((p + f.so) / 86400)) ∧
 ((f.from' (yearP ((p + f.so) / 86400)) ≤ p ∧ p < f.to' (yearP ((p + f.so) / 86400))) ∨ (f.to' (yearP ((p + f.so) / 86400)) ≤ f.from' (yearP ((p + f.so) / 86400)) ∧ (f.from' (yearP ((p + f.so) / 86400)) ≤ p ∨ p < f.to' (yearP ((p + f.so) / 86400)))))
instance (f : Ft) (p : Int) : Decidable (f.sum p) := inferInstanceAs (Decidable (_ ∧ _))
end Go.Proofs.YtenaflbcnkalbaaGreatDoor.Pl
end
section
set_option linter.unusedVariables false
set_option linter.unusedSimpArgs false
namespace Go.Proofs.YtenaflbcnkalbaaGreatDoor.Pl
open Go
theorem kind_all {o : Int} {d : Bool} {l : List UInt8} {w : Bool} : kindR o d l w = true ↔ abbrL l = true ∧ d = w ∧ -89999 ≤ o ∧ o ≤ 89999 := by
 unfold kindR; simp [and_assoc]
theorem parse_ok (l : List UInt8) : (Ft.parse l).2 = true → (Ft.parse l).1.ok = true := by
 have hc : ∀ f : Ft, f.chk.2 = true → f.chk.1.ok = true := fun f h => by
  unfold Ft.chk at *
  split at h
  ·rename_i e; rw [if_pos e]; exact e
  ·cases h
 unfold Ft.parse
 repeat' split
 all_goals first | exact hc _ | (intro h; cases h)
end Go.Proofs.YtenaflbcnkalbaaGreatDoor.Pl
end
section
set_option linter.unusedVariables false
set_option linter.unusedSimpArgs false
namespace Go.Proofs.YtenaflbcnkalbaaGreatDoor.Pl
open Go Go.Proofs.YtenaflbcnkalbaaGreatDoor.Eng
/-- The first place at which it holds, or the end. -/
def fl {α : Type} (q : α → Bool) : List α → Nat
 | [] => 0
 | x :: l => if q x = true then 0 else fl q l + 1
theorem fl_le {α : Type} (q : α → Bool) : ∀ l : List α, fl q l ≤ l.length
 | [] => Nat.le_refl _
 | x :: l => by
  rw [fl]
  split
  ·omega
  ·have := fl_le q l; simp; omega
theorem fl_spec {α : Type} (q : α → Bool) : ∀ (l : List α) (j : Nat) (h : j < l.length), (j < fl q l → q l[j] = false) ∧ (j = fl q l → q l[j] = true)
 | [], j, h => by simp at h
 | x :: l, 0, _ => by
  rw [fl]
  cases hq : q x
  ·exact ⟨fun _ => hq, fun h => by simp at h⟩
  ·exact ⟨fun h => by simp at h, fun _ => hq⟩
 | x :: l, j + 1, h => by
  have ih := fl_spec q l j (by simpa using h)
  rw [fl]
  cases hq : q x
  ·simp only [Bool.false_eq_true, if_false, List.getElem_cons_succ]
   exact ⟨fun h => ih.1 (by omega), fun h => ih.2 (by omega)⟩
  ·exact ⟨fun h => by simp at h, fun h => by simp at h⟩
theorem fl_of {α : Type} (q : α → Bool) (l : List α) (k : Nat) (hk : k ≤ l.length) (h1 : ∀ i (h : i < l.length), i < k → q l[i] = false) (h2 : ∀ h : k < l.length, q l[k] = true) : fl q l = k := by
 have hle := fl_le q l
 rcases Nat.lt_trichotomy (fl q l) k with h | h | h
 ·have h3 : fl q l < l.length := by omega
  have := h1 _ h3 h
  rw [(fl_spec q l _ h3).2 rfl] at this
  cases this
 ·exact h
 ·have h3 : k < l.length := by omega
  have := (fl_spec q l k h3).1 h
  rw [h2 h3] at this
  cases this
abbrev Rec := Int × Int
/-- Records but the expiry. -/
def lastExp (l : List Rec) : Bool := (decide (l.length = 1) && (l.getD 0 (0, 0)).2 == 0) || (decide (1 < l.length) && (l.getD (l.length - 1) (0, 0)).2 == (l.getD (l.length - 2) (0, 0)).2)
def leapsR (l : List Rec) : List Rec := if lastExp l = true then l.take (l.length - 1) else l
def sumR (l : List Rec) (at' : Int) : Int := match ((leapsR l).take (fl (fun c : Rec => decide (c.1 > at')) (leapsR l))).getLast? with
 | none => 0
 | some c => c.2
/-- Whether records are right; how many are ahead, and the one ahead. -/
def recOk : Nat → Rec → List Rec → Bool
 | _, _, [] => true
 | k, b, c :: r =>
  let e := decide (c.2 - b.2 = 0) && r.isEmpty
  decide (k ≤ 200) && decide (0 ≤ c.1) && (e || decide (c.2 - b.2 = 1) || decide (c.2 - b.2 = -1)) && (decide (k = 0) || decide (c.1 - b.1 ≥ if e = true then 0 else 2419199)) && recOk (k + 1) c r
def recRight (l : List Rec) : Bool := recOk 0 (-2419199, 0) l
abbrev Ty := Int × Bool × List UInt8
structure Zn where
 ty : List Ty
 tr : List Rec
 lp : List Rec
 ft : List UInt8
 v : Int
def eTy (t : Ty) : V := .agg [.c (.int .i64 t.1), .c (.bool t.2.1), .c (.string (S t.2.2))]
def eRec (c : Rec) : V := .agg [.c (.int .i64 c.1), .c (.int .i64 c.2)]
def tupZ (z : Zn) : List V × List V × List V × ByteArray × Int × Unit := (z.ty.map eTy, z.tr.map eRec, z.lp.map eRec, S z.ft, z.v, ())
/-- Names, each once, with an end behind each. -/
def poolN : List (List UInt8) → List (List UInt8) → Nat
 | _, [] => 0
 | had, s :: r => if had.contains s = true then poolN had r else s.length + 1 + poolN (s :: had) r
def nin (n a b : Int) : Bool := decide (a ≤ n ∧ n ≤ b)
def countOk (z : Zn) : Bool := (z.ty.map (·.2.2)).all abbrL && decide (poolN [] (z.ty.map (·.2.2)) ≤ 256) && nin z.lp.length 0 201 && nin z.tr.length 0 2000 && nin z.ty.length 1 64 && nin (poolN [] (z.ty.map (·.2.2))) 1 256 && nin z.v 1 4
def oddR (x : Int) : Bool := decide (x < 0) || decide (x > 86400)
def endsOk (z : Zn) : Bool := z.ft.isEmpty || ((Ft.parse z.ft).2 && decide (z.v ≥ if (oddR (Ft.parse z.ft).1.fr.x || oddR (Ft.parse z.ft).1.to.x) = true then 3 else 2))
def trOk (n : Nat) : Option Int → List Rec → Bool
 | _, [] => true
 | b, c :: r => decide (0 ≤ c.2 ∧ c.2 < n) && (match b with | none => true | some a => decide (c.1 > a)) && trOk n (some c.1) r
def zoneRight (z : Zn) : Bool := countOk z && recRight z.lp && (!lastExp z.lp || decide (z.v ≥ 4)) && z.ty.all (fun t => decide (-89999 ≤ t.1 ∧ t.1 ≤ 93599)) && trOk z.ty.length none z.tr && endsOk z
def indexN (z : Zn) (at' : Int) : Nat := fl (fun c : Rec => decide (c.1 > at')) z.tr
def posixR (z : Zn) (at' : Int) : Int := w64 (at' - sumR z.lp at')
def Ft.look (f : Ft) (p : Int) : Ty := if f.sum p then (f.wo, f.wd, f.wa) else (f.so, f.sd, f.sa)
def lookZ (z : Zn) (at' : Int) : Ty :=
 if z.ft ≠ [] ∧ indexN z at' = z.tr.length then (Ft.parse z.ft).1.look (posixR z at')
 else match (z.tr.take (indexN z at')).getLast? with
  | none => z.ty.headD (0, false, [])
  | some c => z.ty.getD c.2.toNat (0, false, [])
end Go.Proofs.YtenaflbcnkalbaaGreatDoor.Pl
end
section
set_option linter.unusedVariables false
set_option linter.unusedSimpArgs false
namespace Go.Proofs.YtenaflbcnkalbaaGreatDoor.Pl
open Go Go.Proofs.YtenaflbcnkalbaaGreatDoor.Eng
abbrev W32 := BitVec 32
theorem wu8_in {n : Int} (h0 : 0 ≤ n) (h1 : n ≤ 255) : wu8 n = n := by
 simp only [wu8, IntKind.wrap, IntKind.bits, IntKind.signed]
 try simp
 try omega
def rotl (x : W32) (k : Nat) : W32 := x <<< k ||| x >>> (32 - k)
/-- The words of a block: sixteen, then those that are mixed. -/
def sched : Nat → List W32 → List W32
 | 0, l => l
 | n + 1, l => sched n (l ++ [rotl (l.getD (l.length - 3) 0 ^^^ l.getD (l.length - 8) 0 ^^^ l.getD (l.length - 14) 0 ^^^ l.getD (l.length - 16) 0) 1])
def next (l : List W32) : List W32 := l ++ [rotl (l.getD (l.length - 3) 0 ^^^ l.getD (l.length - 8) 0 ^^^ l.getD (l.length - 14) 0 ^^^ l.getD (l.length - 16) 0) 1]
def word (b : List UInt8) (i : Nat) : W32 := b.foldl (fun w c => w <<< 8 ||| BitVec.ofNat 32 c.toNat) 0
def wordAt (b : List UInt8) (i : Nat) : W32 := word ((b.drop (4 * i)).take 4) 0
def first (b : List UInt8) (n : Nat) : List W32 := (List.range n).map (wordAt b)
structure St5 where
 a : W32
 b : W32
 c : W32
 d : W32
 e : W32
def s0 : St5 := ⟨1732584193#32, 4023233417#32, 2562383102#32, 271733878#32, 3285377520#32⟩
def St5.at (s : St5) (i : Nat) : W32 := match i with | 0 => s.a | 1 => s.b | 2 => s.c | 3 => s.d | _ => s.e
end Go.Proofs.YtenaflbcnkalbaaGreatDoor.Pl
end
section
set_option linter.unusedVariables false
set_option linter.unusedSimpArgs false
namespace Go.Proofs.YtenaflbcnkalbaaGreatDoor.Pl
open Go Go.Proofs.YtenaflbcnkalbaaGreatDoor.Eng
def blankB (c : UInt8) : Bool := c == 32 || c == 9
/-- Words. -/
def wd : List UInt8 → List UInt8 → List (List UInt8)
 | cur, [] => if cur = [] then [] else [cur]
 | cur, c :: r => if blankB c = true then (if cur = [] then wd [] r else cur :: wd [] r) else wd (cur ++ [c]) r
/-- A number of a text. -/
def numL (l : List UInt8) : Int × Bool := if l ≠ [] ∧ l.all isDig = true ∧ valL l ≤ 9223372036854775807 then ((valL l : Int), true) else (0, false)
def two (l : List UInt8) : Bool := (numL l).2 && decide (l.length ≤ 2)
/-- Leaps: the day, the step, whether of local time; and tables. -/
abbrev LR := Int × Int × Bool
structure Tb where
 ls : List LR
 has : Bool
 ex : Int
deriving DecidableEq
def eLR (l : LR) : V := .agg [.c (.int .i64 l.1), .c (.int .i64 l.2.1), .c (.bool l.2.2)]
def endD (n : Int) : Bool := decide (-719162 ≤ n ∧ n ≤ 2932896) && (dayP n == dim (yearP n) (monP n))
def wrongL (k : Nat) (l : LR) (ahead : Int) : Int :=
 if 200 ≤ k then 8 else if l.1 < 730 ∨ 2932896 ≤ l.1 then 9 else if endD l.1 = false then 5 else if l.2.1 ≠ 1 ∧ l.2.1 ≠ -1 then 6 else if l.1 ≤ ahead then 4 else 0
/-- The first wrong leap, what is wrong of it, the last day ahead. -/
def checkG : Nat → Int → List LR → Nat × Int × Int
 | k, ahead, [] => (k, 0, ahead)
 | k, ahead, l :: r => if wrongL k l ahead ≠ 0 then (k, wrongL k l ahead, ahead) else checkG (k + 1) l.1 r
def expB (has : Bool) (ex ahead : Int) : Int :=
 if has = true then (if ex < (if 63072000 > (ahead + 1) * 86400 then 63072000 else (ahead + 1) * 86400) ∨ 253402300799 < ex then 9 else 0) else if ex ≠ 0 then 9 else 0
def checkT (t : Tb) : Nat × Int := if (checkG 0 729 t.ls).2.1 ≠ 0 then ((checkG 0 729 t.ls).1, (checkG 0 729 t.ls).2.1) else (t.ls.length, expB t.has t.ex (checkG 0 729 t.ls).2.2)
def rightT (t : Tb) : Bool := (checkT t).2 == 0
/-- A line: its kind, its date, its second, and what a leap has beside. -/
structure Row where
 kind : Int
 y : Int
 m : Int
 d : Int
 sec : Int
 sign : List UInt8
 roll : Bool
/-- What is read so far: the table (without an expiry), the line of the expiry, and what it says. -/
structure Src where
 ls : List LR
 at' : Int
 til : Int
theorem set_mid {α : Type} (a : List α) (x y : α) (b : List α) : (a ++ y :: b).set a.length x = a ++ x :: b := by
 induction a with
 | nil => rfl
 | cons h t ih => simp
theorem getD_in {α : Type} (l : List α) (i : Nat) (d : α) (h : i < l.length) : l.getD i d = l[i] := by simp [List.getD, h]
theorem dneg {p : Prop} [Decidable p] (h : ¬ p) : ¬ (decide p = true) := by simpa using h
def TLV (l : List LR) : List V := l.map eLR
theorem TLV_len (l : List LR) : (TLV l).length = l.length := by simp [TLV]
theorem asL1 {l : List LR} {i : Nat} (h : i < l.length) {F : Prop} {K : Int → Prop} (hk : K (l[i]).1) : Eng.asInt .i64 (getC (TLV l) i 0) F K := by
 have : getC (TLV l) i 0 = some (.c (.int .i64 (l[i]).1)) := by simp [getC, TLV, eLR, V.cells, h]
 rw [this]; simpa [Eng.asInt] using hk
theorem asL2 {l : List LR} {i : Nat} (h : i < l.length) {F : Prop} {K : Int → Prop} (hk : K (l[i]).2.1) : Eng.asInt .i64 (getC (TLV l) i 1) F K := by
 have : getC (TLV l) i 1 = some (.c (.int .i64 (l[i]).2.1)) := by simp [getC, TLV, eLR, V.cells, h]
 rw [this]; simpa [Eng.asInt] using hk
theorem asL3 {l : List LR} {i : Nat} (h : i < l.length) {F : Prop} {K : Bool → Prop} (hk : K (l[i]).2.2) : Eng.asBool (getC (TLV l) i 2) F K := by
 have : getC (TLV l) i 2 = some (.c (.bool (l[i]).2.2)) := by simp [getC, TLV, eLR, V.cells, h]
 rw [this]; simpa [Eng.asBool] using hk
theorem wrongL_0 {k : Nat} {l : LR} {a : Int} (h : wrongL k l a = 0) : k < 200 ∧ 730 ≤ l.1 ∧ l.1 < 2932896 ∧ endD l.1 = true ∧ (l.2.1 = 1 ∨ l.2.1 = -1) ∧ a < l.1 := by
 unfold wrongL at h
 split at h; · omega
 split at h; · omega
 split at h; · omega
 split at h; · omega
 split at h; · omega
 rename_i h1 h2 h3 h4 h5
 refine ⟨by omega, by omega, by omega, by simpa using h3, by omega, by omega⟩
end Go.Proofs.YtenaflbcnkalbaaGreatDoor.Pl
end
section
set_option linter.unusedVariables false
set_option linter.unusedSimpArgs false
namespace Go.Proofs.YtenaflbcnkalbaaGreatDoor.Pl
open Go Go.Proofs.YtenaflbcnkalbaaGreatDoor.Eng
def dd (n : Int) : List UInt8 := [UInt8.ofNat (48 + (n / 10 % 10).toNat), UInt8.ofNat (48 + (n % 10).toNat)]
def hms (x : Int) : List UInt8 := dd (x / 3600) ++ 58 :: (dd (x / 60 % 60) ++ 58 :: dd (x % 60))
theorem checkG_all : ∀ (p : List LR) (k : Nat) (a : Int), (checkG k a p).2.1 = 0 → ∀ l ∈ p, 730 ≤ l.1 ∧ l.1 < 2932896 ∧ (l.2.1 = 1 ∨ l.2.1 = -1)
 | [], k, a, h, l, hl => by cases hl
 | x :: p, k, a, h, l, hl => by
  rw [checkG] at h
  split at h
  ·rename_i hw; exact absurd h hw
  ·rename_i hw
   have hw : wrongL k x a = 0 := by omega
   obtain ⟨_, q1, q2, _, q3, _⟩ := wrongL_0 hw
   cases hl with
   | head => exact ⟨q1, q2, q3⟩
   | tail _ hl => exact checkG_all p _ _ h l hl
theorem right_0 {t : Tb} (h : rightT t = true) : (checkG 0 729 t.ls).2.1 = 0 ∧ expB t.has t.ex (checkG 0 729 t.ls).2.2 = 0 := by
 unfold rightT checkT at h
 rw [beq_iff_eq] at h
 split at h
 ·rename_i hw; exact absurd h hw
 ·rename_i hw; exact ⟨by omega, h⟩
theorem right_ex {t : Tb} (h : rightT t = true) : (t.has = false → t.ex = 0) ∧ (t.has = true → 63072000 ≤ t.ex ∧ t.ex ≤ 253402300799) := by
 obtain ⟨h1, h2⟩ := right_0 h
 unfold expB at h2
 constructor
 ·intro hh
  rw [hh, if_neg (by simp)] at h2
  split at h2 <;> omega
 ·intro hh
  rw [hh, if_pos rfl] at h2
  split at h2
  ·omega
  ·split at h2 <;> omega
end Go.Proofs.YtenaflbcnkalbaaGreatDoor.Pl
end
section
set_option linter.unusedVariables false
set_option linter.unusedSimpArgs false
namespace Go.Proofs.YtenaflbcnkalbaaGreatDoor.Pl
open Go Go.Proofs.YtenaflbcnkalbaaGreatDoor.Eng
def midL (l : LR) : Int := (l.1 + 1) * 86400
/-- When a leap is, without those ahead of it. -/
def instR (z : Zn) (l : LR) : Int := if l.2.2 = true then midL l - (lookZ z (midL l - 1)).1 else midL l
def recG (z : Zn) : Int → List LR → List Rec
 | _, [] => []
 | s, l :: r => (instR z l + s + min l.2.1 0, s + l.2.1) :: recG z (s + l.2.1) r
def stepsL (ls : List LR) : Int := (ls.map (·.2.1)).sum
def recAll (z : Zn) (t : Tb) : List Rec := recG z 0 t.ls ++ (if t.has = true then [(t.ex + stepsL t.ls, stepsL t.ls)] else [])
/-- What is wrong of records. -/
def recErr : Nat → Rec → List Rec → Int
 | _, _, [] => 0
 | k, b, c :: r =>
  if 200 < k then 8 else if c.1 < 0 then 9 else if (decide (c.2 - b.2 = 0) && r.isEmpty) = false ∧ c.2 - b.2 ≠ 1 ∧ c.2 - b.2 ≠ -1 then 6
  else if 0 < k ∧ c.1 - b.1 < (if (decide (c.2 - b.2 = 0) && r.isEmpty) = true then 0 else 2419199) then 7 else recErr (k + 1) c r
def recE (l : List Rec) : Int := recErr 0 (-2419199, 0) l
theorem recErr_ok : ∀ (l : List Rec) (k : Nat) (b : Rec), recErr k b l = 0 ↔ recOk k b l = true
 | [], k, b => by simp [recErr, recOk]
 | c :: r, k, b => by
  rw [recErr, recOk]
  generalize (decide (c.2 - b.2 = 0) && r.isEmpty) = e
  rw [Bool.and_eq_true, ← recErr_ok r (k + 1) c]
  simp only [Bool.and_eq_true, Bool.or_eq_true, decide_eq_true_eq]
  split
  ·constructor
   ·intro h; omega
   ·intro h; omega
  split
  ·constructor
   ·intro h; omega
   ·intro h; omega
  cases e
  ·simp only [true_and, Bool.false_eq_true, false_or, if_false]
   split
   ·constructor
    ·intro h; omega
    ·intro h; omega
   split
   ·constructor
    ·intro h; omega
    ·intro h; omega
   ·constructor
    ·intro h; exact ⟨⟨⟨⟨by omega, by omega⟩, by omega⟩, by omega⟩, h⟩
    ·intro h; exact h.2
  ·simp only [Bool.true_eq_false, false_and, if_false, true_or, and_true, if_true]
   split
   ·constructor
    ·intro h; omega
    ·intro h; omega
   ·constructor
    ·intro h; exact ⟨⟨⟨by omega, by omega⟩, by omega⟩, h⟩
    ·intro h; exact h.2
def recordsR (z : Zn) (t : Tb) : List Rec × Int := if recE (recAll z t) = 0 then (recAll z t, 0) else ([], recE (recAll z t))
def inI (n : Int) : Prop := -9223372036854775808 ≤ n ∧ n ≤ 9223372036854775807
instance (n : Int) : Decidable (inI n) := by unfold inI; infer_instance
def shiftS (z : Zn) (ls : List LR) (p : Int) : Int := ((ls.filter fun l => decide (instR z l ≤ p)).map (·.2.1)).sum
def shiftR (z : Zn) (ls : List LR) (p : Int) : Int × Bool := if inI (p + shiftS z ls p) then (p + shiftS z ls p, true) else (0, false)
def zn0 : Zn := ⟨[], [], [], [], 0⟩
def rising : List Rec → Bool
 | [] => true
 | [_] => true
 | a :: b :: r => decide (a.1 < b.1) && rising (b :: r)
/-- A zone whose changes are elsewhere. -/
def movedR (z : Zn) (to : Int → Int × Bool) : Zn × Int :=
 if z.tr.all (fun c => (to c.1).2) = true then
  if rising (z.tr.map fun c => ((to c.1).1, c.2)) = true then (⟨z.ty, z.tr.map fun c => ((to c.1).1, c.2), z.lp, z.ft, z.v⟩, 0) else (zn0, 4)
 else (zn0, 8)
def compileR (z : Zn) (t : Tb) : Zn × Int :=
 if ¬ ((z.lp = [] ∧ zoneRight z = true) ∧ rightT t = true) then (zn0, 1)
 else if (recordsR z t).2 ≠ 0 then (zn0, (recordsR z t).2)
 else if (movedR z (shiftR z t.ls)).2 ≠ 0 then (zn0, (movedR z (shiftR z t.ls)).2)
 else (⟨(movedR z (shiftR z t.ls)).1.ty, (movedR z (shiftR z t.ls)).1.tr, (recordsR z t).1, (movedR z (shiftR z t.ls)).1.ft, if t.has = true then 4 else (movedR z (shiftR z t.ls)).1.v⟩, 0)
def stepT (ls : List LR) (i : Nat) : Int := (ls.getD i (0, 0, false)).2.1
def sumT (ls : List LR) (i : Nat) : Int := stepsL (ls.take i)
theorem stepsL_cons (l : LR) (r : List LR) : stepsL (l :: r) = l.2.1 + stepsL r := by simp [stepsL]
theorem stepsL_app (a b : List LR) : stepsL (a ++ b) = stepsL a + stepsL b := by simp [stepsL]
theorem sumT_succ {ls : List LR} {i : Nat} (h : i < ls.length) : sumT ls (i + 1) = sumT ls i + stepT ls i := by
 unfold sumT stepT
 rw [List.take_succ_eq_append_getElem h, stepsL_app, List.getD, List.getElem?_eq_getElem h]; simp [stepsL]
theorem recG_len (z : Zn) : ∀ (ls : List LR) (s : Int), (recG z s ls).length = ls.length
 | [], _ => rfl
 | l :: r, s => by rw [recG, List.length_cons, List.length_cons, recG_len z r]
theorem recG_get (z : Zn) : ∀ (ls : List LR) (s : Int) (i : Nat) (h : i < ls.length) (h' : i < (recG z s ls).length),
  (recG z s ls)[i] = (instR z ls[i] + (s + sumT ls i) + min (stepT ls i) 0, s + sumT ls (i + 1))
 | l :: r, s, 0, h, h' => by simp [recG, sumT, stepT, stepsL]
 | l :: r, s, i + 1, h, h' => by
  have hr : i < r.length := by simpa using h
  have := recG_get z r (s + l.2.1) i hr (by rw [recG_len]; exact hr)
  simp only [recG, List.getElem_cons_succ]
  rw [this]
  unfold sumT stepT
  rw [List.take_succ_cons, List.take_succ_cons, stepsL_cons, stepsL_cons]
  simp [Int.add_assoc]
theorem getD_app_lt {α : Type} (a b : List α) (d : α) (i : Nat) (h : i < a.length) : (a ++ b).getD i d = a.getD i d := by
 simp only [List.getD]; rw [List.getElem?_append_left h]
theorem rising_get : ∀ (l : List Rec), rising l = true → ∀ i (h : i + 1 < l.length), (l[i]).1 < (l[i + 1]).1
 | a :: b :: r, h, i, hi => by
  rw [rising, Bool.and_eq_true, decide_eq_true_eq] at h
  cases i with
  | zero => exact h.1
  | succ i => exact rising_get (b :: r) h.2 i (by simpa using hi)
 | [a], h, i, hi => by simp at hi
end Go.Proofs.YtenaflbcnkalbaaGreatDoor.Pl
end
