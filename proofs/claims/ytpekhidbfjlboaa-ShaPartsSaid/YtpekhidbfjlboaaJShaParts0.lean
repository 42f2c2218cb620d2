/- What the functions come to in plain data, with proofs, and what that answers. -/
import Derived.Test.YtpekhidbfjlboaaE2
import Derived.Test.YtpekhidbfjlboaaProg
import Derived.Below
import Derived.KernelRfl
import Derived.Lib.Strings
import Derived.Lib.Atoi
import Derived.Laws.Concat
import Derived.Lib.ItoaNum
import Derived.Laws.RangeString
import Derived.Laws.RangeAny
import Derived.Lib.Bytealg
section
set_option linter.unusedVariables false
set_option linter.unusedSimpArgs false
namespace Go.Proofs.Ytpekhidbfjlboaa
open Go Go.Proofs.Ytpekhidbfjlboaa.Eng Go.RowKit
set_option linter.unusedVariables false
def gives : FuncId → Bool := fun _ => false
theorem follows : Try.prog.follows .mixedOrders = true := by kernel_rfl
abbrev Gs := {l : List (Nat × Obj) // True}
end Go.Proofs.Ytpekhidbfjlboaa
end
section
set_option linter.unusedVariables false
set_option linter.unusedSimpArgs false
namespace Go.Proofs.Ytpekhidbfjlboaa
open Go Go.Proofs.Ytpekhidbfjlboaa.Eng
set_option linter.unusedVariables false
set_option maxRecDepth 100000
set_option maxHeartbeats 4000000
variable {G : Gs}
abbrev pL0 : PL := (.cons (.nl 1) (.cons (.int .i64) .nil))
abbrev pL1 : PL := (.cons (.sla 0) .nil)
abbrev pH2 : PH := (.cons 0 (.arrB 1) .nil)
abbrev Q3 : Type := (List Eng.V × Unit × Int × List Eng.V × Int × Int × Unit) × Unit
abbrev Q4 : Type := (Unit × Unit × List Eng.V × Int × Int × Unit) × (List Eng.V × Bool × Bool) × Unit
abbrev pT5 : PT := (.cons 2 (.nl 0) (.cons 6 (.sla 448) (.cons 25 (.slN 1) (.cons 26 (.int .i64) (.cons 27 (.int .i64) .nil)))))
abbrev pH6 : PH := (.cons 448 (.arrB 1) .nil)
abbrev pT7 : PT := (.cons 0 (.slN 1) (.cons 2 (.nl 0) (.cons 3 (.int .i64) (.cons 9 (.slN 1) (.cons 10 (.int .i64) (.cons 11 (.int .i64) .nil))))))
abbrev pL8 : PL := (.cons (.slN 1) .nil)
abbrev pL9 : PL := (.cons (.int .u32) (.cons (.int .i64) .nil))
abbrev pL10 : PL := (.cons (.int .u32) .nil)
abbrev pL11 : PL := (.cons (.ptr 0 0) (.cons (.int .u32) (.cons (.int .u32) (.cons (.int .u32) .nil))))
abbrev pH12 : PH := (.cons 0 (.cells [.int .u32, .int .u32, .int .u32, .int .u32, .int .u32] (.cons (.int .u32) (.cons (.int .u32) (.cons (.int .u32) (.cons (.int .u32) (.cons (.int .u32) .nil)))))) .nil)
abbrev Q13 : Type := (Unit × List Eng.V × Unit × Int × Unit) × (Int × Int × Int × Int × Int × Unit) × List Eng.V × Unit
abbrev Q14 : Type := (Unit × Unit × Int × Unit) × (Int × Int × Int × Int × Int × Unit) × List Eng.V × Unit
abbrev Q15 : Type := (Unit × Unit × List Eng.V × Int × Unit) × (Int × Int × Int × Int × Int × Unit) × (Int × Int × Int × Int × Int × Unit) × Unit
abbrev pT16 : PT := (.cons 0 (.ptr 0 0) (.cons 9 (.ptr 208 0) (.cons 72 .aggS (.cons 73 (.int .i64) .nil))))
abbrev pH17 : PH := (.cons 0 (.cells [.int .u32, .int .u32, .int .u32, .int .u32, .int .u32] (.cons (.int .u32) (.cons (.int .u32) (.cons (.int .u32) (.cons (.int .u32) (.cons (.int .u32) .nil)))))) (.cons 208 (.cells [.int .u32, .int .u32, .int .u32, .int .u32, .int .u32] (.cons (.int .u32) (.cons (.int .u32) (.cons (.int .u32) (.cons (.int .u32) (.cons (.int .u32) .nil)))))) .nil))
abbrev pT18 : PT := (.cons 0 (.ptr 0 0) (.cons 4 (.pea 128) (.cons 8 (.int .i64) .nil)))
abbrev pH19 : PH := (.cons 0 (.cells [.int .u32, .int .u32, .int .u32, .int .u32, .int .u32] (.cons (.int .u32) (.cons (.int .u32) (.cons (.int .u32) (.cons (.int .u32) (.cons (.int .u32) .nil)))))) (.cons 128 (.arr 80 true false) .nil))
abbrev Q20 : Type := (Unit × List Eng.V × Unit × Int × Int × List Eng.V × Int × Int × Unit) × (Int × Int × Int × Int × Int × Unit) × List Eng.V × Unit
abbrev pT21 : PT := (.cons 0 (.ptr 0 0) (.cons 1 (.slN 1) (.cons 4 (.pea 128) (.cons 5 (.int .i64) (.cons 17 (.int .i64) (.cons 26 (.slN 1) (.cons 27 (.int .i64) (.cons 28 (.int .i64) .nil))))))))
abbrev pT22 : PT := (.cons 0 (.ptr 0 0) (.cons 1 (.slN 1) (.cons 4 (.pea 128) (.cons 17 (.int .i64) .nil))))
abbrev pL23 : PL := (.cons (.ptr 0 0) (.cons (.slN 1) .nil))
abbrev Q24 : Type := Int × Int × Int × Int × Int × Int × Int × Int × Int × Int × Int × Int × Int × Int × Int × Int × Int × Int × Int × Int × Unit
abbrev Q25 : Type := (Unit × Unit × Int × Int × Unit) × List Eng.V × (List Eng.V × Bool × Bool) × Unit
abbrev Q26 : Type := (Unit × List Eng.V × Unit × Unit) × List Eng.V × (Int × Int × Int × Int × Int × Unit) × Unit
abbrev Q27 : Type := (Unit × Unit × Int × Unit) × List Eng.V × (Int × Int × Int × Int × Int × Unit) × Unit
abbrev pT28 : PT := (.cons 2 (.pea 96) (.cons 6 (.ptr 160 0) (.cons 45 (.int .i64) .nil)))
abbrev pH29 : PH := (.cons 96 (.arr 20 true false) (.cons 160 (.cells [.int .u32, .int .u32, .int .u32, .int .u32, .int .u32] (.cons (.int .u32) (.cons (.int .u32) (.cons (.int .u32) (.cons (.int .u32) (.cons (.int .u32) .nil)))))) .nil))
abbrev pT30 : PT := (.cons 2 (.pea 96) (.cons 3 (.slN 1) (.cons 6 (.ptr 160 0) .nil)))
abbrev pT31 : PT := (.cons 2 (.pea 96) (.cons 3 (.sla 208) (.cons 4 (.int .u64) (.cons 5 (.int .i64) .nil))))
abbrev pH32 : PH := (.cons 96 (.arr 20 true false) (.cons 208 (.arrB 1) .nil))
abbrev pL33 : PL := (.cons (.agg (.cons (.int .u8) (.cons (.int .u8) (.cons (.int .u8) (.cons (.int .u8) (.cons (.int .u8) (.cons (.int .u8) (.cons (.int .u8) (.cons (.int .u8) (.cons (.int .u8) (.cons (.int .u8) (.cons (.int .u8) (.cons (.int .u8) (.cons (.int .u8) (.cons (.int .u8) (.cons (.int .u8) (.cons (.int .u8) (.cons (.int .u8) (.cons (.int .u8) (.cons (.int .u8) (.cons (.int .u8) .nil))))))))))))))))))))) .nil)
abbrev Q34 : Type := Int × Int × Int × Int × Int × Unit
abbrev Q35 : Type := (Unit × (Int × Int × Int × Int × Int × Int × Int × Int × Int × Int × Int × Int × Int × Int × Int × Int × Int × Int × Int × Int × Unit) × Int × Unit) × List Eng.V × Unit
abbrev pT36 : PT := (.cons 2 (.pea 96) (.cons 5 (.agg (.cons (.int .u8) (.cons (.int .u8) (.cons (.int .u8) (.cons (.int .u8) (.cons (.int .u8) (.cons (.int .u8) (.cons (.int .u8) (.cons (.int .u8) (.cons (.int .u8) (.cons (.int .u8) (.cons (.int .u8) (.cons (.int .u8) (.cons (.int .u8) (.cons (.int .u8) (.cons (.int .u8) (.cons (.int .u8) (.cons (.int .u8) (.cons (.int .u8) (.cons (.int .u8) (.cons (.int .u8) .nil))))))))))))))))))))) (.cons 6 (.int .i64) .nil)))
abbrev pH37 : PH := (.cons 96 (.arr 5 true false) .nil)
abbrev pL38 : PL := (.cons (.agg (.cons (.int .u32) (.cons (.int .u32) (.cons (.int .u32) (.cons (.int .u32) (.cons (.int .u32) .nil)))))) .nil)
abbrev Q39 : Type := (ByteArray × Unit × (Int × Int × Int × Int × Int × Int × Int × Int × Int × Int × Int × Int × Int × Int × Int × Int × Int × Int × Int × Int × Unit) × Int × Unit) × List Eng.V × Unit
abbrev pT40 : PT := (.cons 2 .str (.cons 3 (.sla 416) (.cons 6 (.agg (.cons (.int .u8) (.cons (.int .u8) (.cons (.int .u8) (.cons (.int .u8) (.cons (.int .u8) (.cons (.int .u8) (.cons (.int .u8) (.cons (.int .u8) (.cons (.int .u8) (.cons (.int .u8) (.cons (.int .u8) (.cons (.int .u8) (.cons (.int .u8) (.cons (.int .u8) (.cons (.int .u8) (.cons (.int .u8) (.cons (.int .u8) (.cons (.int .u8) (.cons (.int .u8) (.cons (.int .u8) .nil))))))))))))))))))))) (.cons 7 (.int .i64) .nil))))
abbrev pH41 : PH := (.cons 416 (.arr 1 true false) .nil)
abbrev pL42 : PL := (.cons .str .nil)
abbrev pL43 : PL := (.cons .bool .nil)
abbrev Q44 : Type := (Unit × Bool × Bool × Unit × ByteArray × Unit × Int × Unit) × (Int × Int × Int × Int × Int × Int × Int × Int × Int × Int × Int × Int × Int × Int × Int × Int × Int × Int × Int × Int × Unit) × List Eng.V × List Eng.V × Unit
abbrev pT45 : PT := (.cons 1 (.ptr 80 0) (.cons 2 .bool (.cons 3 .bool (.cons 4 (.pea 128) (.cons 5 .str (.cons 6 (.pea 160) (.cons 7 (.int .i64) .nil)))))))
abbrev pH46 : PH := (.cons 80 (.cells [.int .u8, .int .u8, .int .u8, .int .u8, .int .u8, .int .u8, .int .u8, .int .u8, .int .u8, .int .u8, .int .u8, .int .u8, .int .u8, .int .u8, .int .u8, .int .u8, .int .u8, .int .u8, .int .u8, .int .u8] (.cons (.int .u8) (.cons (.int .u8) (.cons (.int .u8) (.cons (.int .u8) (.cons (.int .u8) (.cons (.int .u8) (.cons (.int .u8) (.cons (.int .u8) (.cons (.int .u8) (.cons (.int .u8) (.cons (.int .u8) (.cons (.int .u8) (.cons (.int .u8) (.cons (.int .u8) (.cons (.int .u8) (.cons (.int .u8) (.cons (.int .u8) (.cons (.int .u8) (.cons (.int .u8) (.cons (.int .u8) .nil))))))))))))))))))))) (.cons 128 (.arr 5 true false) (.cons 160 (.arr 20 true false) .nil)))
abbrev Q47 : Type := (Unit × Unit × Bool × Bool × ByteArray × Int × Unit) × (Int × Int × Int × Int × Int × Int × Int × Int × Int × Int × Int × Int × Int × Int × Int × Int × Int × Int × Int × Int × Unit) × (Int × Int × Int × Int × Int × Int × Int × Int × Int × Int × Int × Int × Int × Int × Int × Int × Int × Int × Int × Int × Unit) × Unit
abbrev pT48 : PT := (.cons 2 (.ptr 96 0) (.cons 3 (.ptr 112 0) (.cons 4 .bool (.cons 5 .bool (.cons 6 .str (.cons 7 (.int .i64) .nil))))))
abbrev pH49 : PH := (.cons 96 (.cells [.int .u8, .int .u8, .int .u8, .int .u8, .int .u8, .int .u8, .int .u8, .int .u8, .int .u8, .int .u8, .int .u8, .int .u8, .int .u8, .int .u8, .int .u8, .int .u8, .int .u8, .int .u8, .int .u8, .int .u8] (.cons (.int .u8) (.cons (.int .u8) (.cons (.int .u8) (.cons (.int .u8) (.cons (.int .u8) (.cons (.int .u8) (.cons (.int .u8) (.cons (.int .u8) (.cons (.int .u8) (.cons (.int .u8) (.cons (.int .u8) (.cons (.int .u8) (.cons (.int .u8) (.cons (.int .u8) (.cons (.int .u8) (.cons (.int .u8) (.cons (.int .u8) (.cons (.int .u8) (.cons (.int .u8) (.cons (.int .u8) .nil))))))))))))))))))))) (.cons 112 (.cells [.int .u8, .int .u8, .int .u8, .int .u8, .int .u8, .int .u8, .int .u8, .int .u8, .int .u8, .int .u8, .int .u8, .int .u8, .int .u8, .int .u8, .int .u8, .int .u8, .int .u8, .int .u8, .int .u8, .int .u8] (.cons (.int .u8) (.cons (.int .u8) (.cons (.int .u8) (.cons (.int .u8) (.cons (.int .u8) (.cons (.int .u8) (.cons (.int .u8) (.cons (.int .u8) (.cons (.int .u8) (.cons (.int .u8) (.cons (.int .u8) (.cons (.int .u8) (.cons (.int .u8) (.cons (.int .u8) (.cons (.int .u8) (.cons (.int .u8) (.cons (.int .u8) (.cons (.int .u8) (.cons (.int .u8) (.cons (.int .u8) .nil))))))))))))))))))))) .nil))
abbrev pL50 : PL := (.cons (.agg (.cons (.int .u8) (.cons (.int .u8) (.cons (.int .u8) (.cons (.int .u8) (.cons (.int .u8) (.cons (.int .u8) (.cons (.int .u8) (.cons (.int .u8) (.cons (.int .u8) (.cons (.int .u8) (.cons (.int .u8) (.cons (.int .u8) (.cons (.int .u8) (.cons (.int .u8) (.cons (.int .u8) (.cons (.int .u8) (.cons (.int .u8) (.cons (.int .u8) (.cons (.int .u8) (.cons (.int .u8) .nil))))))))))))))))))))) (.cons (.agg (.cons (.int .u8) (.cons (.int .u8) (.cons (.int .u8) (.cons (.int .u8) (.cons (.int .u8) (.cons (.int .u8) (.cons (.int .u8) (.cons (.int .u8) (.cons (.int .u8) (.cons (.int .u8) (.cons (.int .u8) (.cons (.int .u8) (.cons (.int .u8) (.cons (.int .u8) (.cons (.int .u8) (.cons (.int .u8) (.cons (.int .u8) (.cons (.int .u8) (.cons (.int .u8) (.cons (.int .u8) .nil))))))))))))))))))))) .nil))
abbrev Q51 : Type := (List Eng.V × Unit × Unit × Unit) × List Eng.V × Unit
abbrev Q52 : Type := (Unit × Unit × Int × Int × Unit) × List Eng.V × Unit
abbrev pT53 : PT := (.cons 2 (.nl 0) (.cons 3 (.sla 160) (.cons 4 (.int .u64) (.cons 5 (.int .i64) .nil))))
abbrev pH54 : PH := (.cons 160 (.arr 1 true false) .nil)
abbrev pT55 : PT := (.cons 0 (.slN 1) (.cons 2 (.nl 0) (.cons 3 (.sla 160) .nil)))
abbrev pL56 : PL := (.cons (.int .i64) (.cons (.int .u32) (.cons (.int .u32) (.cons (.int .u32) .nil))))
abbrev Q57 : Type := (List Eng.V × Unit × Unit × Unit × Int × Unit) × (Int × Int × Int × Int × Int × Unit) × List Eng.V × List Eng.V × Unit
abbrev Q58 : Type := (Unit × Unit × Unit × Int × Unit) × (Int × Int × Int × Int × Int × Unit) × List Eng.V × List Eng.V × Unit
abbrev Q59 : Type := (Unit × Unit × Unit × Unit × Int × Unit) × (Int × Int × Int × Int × Int × Unit) × List Eng.V × List Eng.V × List Eng.V × Unit
abbrev pT60 : PT := (.cons 2 (.ptr 96 0) (.cons 4 (.pea 128) (.cons 8 (.pea 192) (.cons 11 (.int .i64) .nil))))
abbrev pH61 : PH := (.cons 96 (.cells [.int .u32, .int .u32, .int .u32, .int .u32, .int .u32] (.cons (.int .u32) (.cons (.int .u32) (.cons (.int .u32) (.cons (.int .u32) (.cons (.int .u32) .nil)))))) (.cons 128 (.arr 5 true false) (.cons 192 (.arr 5 true false) .nil)))
abbrev pT62 : PT := (.cons 2 (.ptr 96 0) (.cons 4 (.pea 128) (.cons 5 (.sla 2192) (.cons 8 (.pea 192) (.cons 9 (.int .i64) .nil)))))
abbrev pH63 : PH := (.cons 96 (.cells [.int .u32, .int .u32, .int .u32, .int .u32, .int .u32] (.cons (.int .u32) (.cons (.int .u32) (.cons (.int .u32) (.cons (.int .u32) (.cons (.int .u32) .nil)))))) (.cons 128 (.arr 5 true false) (.cons 192 (.arr 5 true false) (.cons 2192 (.arr 1 true false) .nil))))
abbrev pT64 : PT := (.cons 2 (.ptr 96 0) (.cons 4 (.pea 128) (.cons 5 (.sla 2192) (.cons 7 (.int .i64) .nil))))
abbrev pH65 : PH := (.cons 96 (.cells [.int .u32, .int .u32, .int .u32, .int .u32, .int .u32] (.cons (.int .u32) (.cons (.int .u32) (.cons (.int .u32) (.cons (.int .u32) (.cons (.int .u32) .nil)))))) (.cons 128 (.arr 5 true false) (.cons 2192 (.arr 1 true false) .nil)))
abbrev pT66 : PT := (.cons 1 (.slN 1) (.cons 2 (.ptr 96 0) (.cons 4 (.pea 128) (.cons 5 (.sla 2192) (.cons 6 (.int .i64) .nil)))))
abbrev pL67 : PL := (.cons (.agg (.cons (.int .u32) (.cons (.int .u32) (.cons (.int .u32) (.cons (.int .u32) (.cons (.int .u32) .nil)))))) (.cons (.slN 1) .nil))
abbrev Q68 : Type := (Unit × Unit × Unit × Int × Unit) × List Eng.V × List Eng.V × (List Eng.V × Bool × Bool) × Unit
abbrev Q69 : Type := (Unit × Unit × Unit × Int × Unit) × List Eng.V × List Eng.V × List Eng.V × Unit
abbrev pT70 : PT := (.cons 2 (.pea 96) (.cons 3 (.pea 112) (.cons 6 (.pea 160) (.cons 7 (.int .i64) .nil))))
abbrev pH71 : PH := (.cons 96 (.arr 20 true false) (.cons 112 (.arr 5 true false) (.cons 160 (.arr 20 true false) .nil)))
abbrev pT72 : PT := (.cons 2 (.pea 96) (.cons 3 (.pea 112) (.cons 4 (.sla 224) (.cons 5 (.int .i64) .nil))))
abbrev pH73 : PH := (.cons 96 (.arr 20 true false) (.cons 112 (.arr 5 true false) (.cons 224 (.arrB 1) .nil)))
abbrev Q74 : Type := (Unit × Unit × Unit × Int × Unit) × (Int × Int × Int × Int × Int × Int × Int × Int × Int × Int × Int × Int × Int × Int × Int × Int × Int × Int × Int × Int × Unit) × List Eng.V × List Eng.V × Unit
abbrev pT75 : PT := (.cons 1 (.ptr 80 0) (.cons 2 (.pea 96) (.cons 3 (.pea 112) (.cons 4 (.int .i64) .nil))))
abbrev pH76 : PH := (.cons 80 (.cells [.int .u8, .int .u8, .int .u8, .int .u8, .int .u8, .int .u8, .int .u8, .int .u8, .int .u8, .int .u8, .int .u8, .int .u8, .int .u8, .int .u8, .int .u8, .int .u8, .int .u8, .int .u8, .int .u8, .int .u8] (.cons (.int .u8) (.cons (.int .u8) (.cons (.int .u8) (.cons (.int .u8) (.cons (.int .u8) (.cons (.int .u8) (.cons (.int .u8) (.cons (.int .u8) (.cons (.int .u8) (.cons (.int .u8) (.cons (.int .u8) (.cons (.int .u8) (.cons (.int .u8) (.cons (.int .u8) (.cons (.int .u8) (.cons (.int .u8) (.cons (.int .u8) (.cons (.int .u8) (.cons (.int .u8) (.cons (.int .u8) .nil))))))))))))))))))))) (.cons 96 (.arr 5 true false) (.cons 112 (.arr 5 true false) .nil)))
abbrev Q77 : Type := (Unit × ByteArray × ByteArray × ByteArray × Int × Unit) × (Int × Int × Int × Int × Int × Int × Int × Int × Int × Int × Int × Int × Int × Int × Int × Int × Int × Int × Int × Int × Unit) × Unit
abbrev pT78 : PT := (.cons 1 (.ptr 80 0) (.cons 2 .str (.cons 3 .str (.cons 4 .str (.cons 5 (.int .i64) .nil)))))
abbrev pH79 : PH := (.cons 80 (.cells [.int .u8, .int .u8, .int .u8, .int .u8, .int .u8, .int .u8, .int .u8, .int .u8, .int .u8, .int .u8, .int .u8, .int .u8, .int .u8, .int .u8, .int .u8, .int .u8, .int .u8, .int .u8, .int .u8, .int .u8] (.cons (.int .u8) (.cons (.int .u8) (.cons (.int .u8) (.cons (.int .u8) (.cons (.int .u8) (.cons (.int .u8) (.cons (.int .u8) (.cons (.int .u8) (.cons (.int .u8) (.cons (.int .u8) (.cons (.int .u8) (.cons (.int .u8) (.cons (.int .u8) (.cons (.int .u8) (.cons (.int .u8) (.cons (.int .u8) (.cons (.int .u8) (.cons (.int .u8) (.cons (.int .u8) (.cons (.int .u8) .nil))))))))))))))))))))) .nil)
abbrev pL80 : PL := (.cons (.slN 1) (.cons (.agg (.cons (.int .u8) (.cons (.int .u8) (.cons (.int .u8) (.cons (.int .u8) (.cons (.int .u8) (.cons (.int .u8) (.cons (.int .u8) (.cons (.int .u8) (.cons (.int .u8) (.cons (.int .u8) (.cons (.int .u8) (.cons (.int .u8) (.cons (.int .u8) (.cons (.int .u8) (.cons (.int .u8) (.cons (.int .u8) (.cons (.int .u8) (.cons (.int .u8) (.cons (.int .u8) (.cons (.int .u8) .nil))))))))))))))))))))) .nil))
abbrev Q81 : Type := (List Eng.V × Bool × Bool × Unit × Int × Unit) × List Eng.V × Unit
abbrev Q82 : Type := (List Eng.V × Bool × Bool × Unit × Unit × Unit × Int × Unit) × List Eng.V × List Eng.V × List Eng.V × Unit
abbrev pT83 : PT := (.cons 0 (.slN 1) (.cons 2 .bool (.cons 3 .bool (.cons 4 (.sla 1056) (.cons 6 (.pea 160) (.cons 7 (.sla 1072) (.cons 8 (.int .i64) .nil)))))))
abbrev pH84 : PH := (.cons 160 (.arr 20 true false) (.cons 1056 (.arr 1 true false) (.cons 1072 (.arr 1 true false) .nil)))
abbrev pT85 : PT := (.cons 0 (.slN 1) (.cons 2 .bool (.cons 3 .bool (.cons 4 (.sla 1056) (.cons 5 (.int .i64) .nil)))))
abbrev pH86 : PH := (.cons 1056 (.arr 1 true false) .nil)
/- slices.Grow[[]byte,byte] -/
abbrev Tslices_Grow___byte_byte_ : Type := Int → ((List Eng.V) → Bool → Bool → Prop) → Prop
def Yslices_Grow___byte_byte_ (a0 : Int) (K : (List Eng.V) → Bool → Bool → Prop) : Prop :=
 (if decide (a0 < 0) then
 False
 else
 (if decide (w64 (a0 - 0) > 0) then
 (if 0 ≤ w64 (a0 - 0) ∧ w64 (a0 - 0) ≤ 4398046511104 then
 (if Eng.roomOk ((0 : Nat) + List.length (List.replicate (Int.toNat (w64 (a0 - 0))) (Eng.ofVal (Value.int IntKind.u8 0)))) (1 : Nat) then
 K [] true false
 else
 False)
 else
 False)
 else
 K [] true true))
def Xslices_Grow___byte_byte_ : Tslices_Grow___byte_byte_ := Yslices_Grow___byte_byte_
def Jslices_Grow___byte_byte_ (X : Tslices_Grow___byte_byte_) : Inst := mkI 18 pL0 .nil pL1 pH2 X
def Islices_Grow___byte_byte_ : Inst := Jslices_Grow___byte_byte_ Xslices_Grow___byte_byte_
theorem Eslices_Grow___byte_byte_ : EqF Try.prog 27 gives Try.f18 [] [] (Jslices_Grow___byte_byte_ (Yslices_Grow___byte_byte_)) := fun x y K => by kernel_rfl
theorem Islices_Grow___byte_byte__ok : InstOk Try.prog G.1 Islices_Grow___byte_byte_ := iok (gives := gives) [] okNil 27 follows Try.func18 (by kernel_rfl) (fun x => by kernel_rfl) (Eslices_Grow___byte_byte_)

/- slices.Concat[[]byte,byte] -/
abbrev Tslices_Concat___byte_byte_ : Type := (List Eng.V) → ((List Eng.V) → Bool → Bool → Prop) → Prop
def Lslices_Concat___byte_byte__1 (K : (List Eng.V) → Bool → Bool → Prop) (k1 : Q3 → Prop) : (Q4 → Prop) → Q4 → Prop := fun k8 x9 =>
 (if decide (x9.1.2.2.2.2.1 < x9.1.2.2.2.1) then
 (if 0 ≤ x9.1.2.2.2.2.1 ∧ x9.1.2.2.2.2.1 < (↑(List.length x9.1.2.2.1) : Int) then
 (Eng.asSl (1 : Nat) (Eng.getC x9.1.2.2.1 (Int.toNat x9.1.2.2.2.2.1) (0 : Nat)) False fun l10 l11 =>
 (if x9.2.1.2.1 then
 (if Eng.roomOk (List.length x9.2.1.1 + List.length l11) (1 : Nat) then
 k8 (((), (), x9.1.2.2.1, x9.1.2.2.2.1, w64 (x9.1.2.2.2.2.1 + 1), ()), (x9.2.1.1 ++ l11, x9.2.1.2), ())
 else
 False)
 else
 False))
 else
 False)
 else
 K x9.2.1.1 x9.2.1.2.1 x9.2.1.2.2)
def Lslices_Concat___byte_byte__1p : Lp := ⟨234881092, [.trim 234881092], pT5, pH6, 0⟩
def Lslices_Concat___byte_byte__0 (xslices_Grow___byte_byte_ : Tslices_Grow___byte_byte_) (K : (List Eng.V) → Bool → Bool → Prop) : (Q3 → Prop) → Q3 → Prop := fun k1 x2 =>
 (if decide (x2.1.2.2.2.2.2.1 < x2.1.2.2.2.2.1) then
 (if 0 ≤ x2.1.2.2.2.2.2.1 ∧ x2.1.2.2.2.2.2.1 < (↑(List.length x2.1.2.2.2.1) : Int) then
 (Eng.asSl (1 : Nat) (Eng.getC x2.1.2.2.2.1 (Int.toNat x2.1.2.2.2.2.2.1) (0 : Nat)) False fun l3 l4 =>
 (if decide (w64 (x2.1.2.2.1 + (↑(List.length l4) : Int)) < 0) then
 False
 else
 k1 ((x2.1.1, (), w64 (x2.1.2.2.1 + (↑(List.length l4) : Int)), x2.1.2.2.2.1, x2.1.2.2.2.2.1, w64 (x2.1.2.2.2.2.2.1 + 1), ()), ())))
 else
 False)
 else
 xslices_Grow___byte_byte_ x2.1.2.2.1 (fun r5 r6 r7 =>
 lp (Lslices_Concat___byte_byte__1 K k1) (((), (), x2.1.1, (↑(List.length x2.1.1) : Int), 0, ()), (r5, r6, r7), ())))
def Lslices_Concat___byte_byte__0p : Lp := ⟨3597, [.trim 3597], pT7, .nil, 0⟩
def Yslices_Concat___byte_byte_ (xslices_Grow___byte_byte_ : Tslices_Grow___byte_byte_) (a0 : (List Eng.V)) (K : (List Eng.V) → Bool → Bool → Prop) : Prop :=
 lp (Lslices_Concat___byte_byte__0 xslices_Grow___byte_byte_ K) ((a0, (), 0, a0, (↑(List.length a0) : Int), 0, ()), ())
def Xslices_Concat___byte_byte_ : Tslices_Concat___byte_byte_ := Yslices_Concat___byte_byte_ Xslices_Grow___byte_byte_
def Jslices_Concat___byte_byte_ (X : Tslices_Concat___byte_byte_) : Inst := mkI 14 pL8 .nil pL1 pH2 X
def Islices_Concat___byte_byte_ : Inst := Jslices_Concat___byte_byte_ Xslices_Concat___byte_byte_
theorem Eslices_Concat___byte_byte_ (xslices_Grow___byte_byte_ : Tslices_Grow___byte_byte_) : EqF Try.prog 36 gives Try.f14 [Jslices_Grow___byte_byte_ xslices_Grow___byte_byte_] [Lslices_Concat___byte_byte__0p, Lslices_Concat___byte_byte__1p] (Jslices_Concat___byte_byte_ (Yslices_Concat___byte_byte_ xslices_Grow___byte_byte_)) := fun x y K => by kernel_rfl
theorem Islices_Concat___byte_byte__ok : InstOk Try.prog G.1 Islices_Concat___byte_byte_ := iok (gives := gives) [Lslices_Concat___byte_byte__0p, Lslices_Concat___byte_byte__1p] (okCons Islices_Grow___byte_byte__ok okNil) 36 follows Try.func14 (by kernel_rfl) (fun x => by kernel_rfl) (Eslices_Concat___byte_byte_ Xslices_Grow___byte_byte_)

/- math/bits.RotateLeft32 -/
abbrev Tmath_bits_RotateLeft32 : Type := Int → Int → (Int → Prop) → Prop
def Ymath_bits_RotateLeft32 (a0 : Int) (a1 : Int) (K : Int → Prop) : Prop :=
 (lt (wu32 (a0 * 2 ^ Min.min (Int.toNat (wu64 (↑(BitVec.toNat (BitVec.ofInt (64 : Nat) (wu64 a1) &&& BitVec.ofInt (64 : Nat) 31)) : Int))) (32 : Nat))) fun v2 =>
 (lt (wu64 (32 - wu64 (↑(BitVec.toNat (BitVec.ofInt (64 : Nat) (wu64 a1) &&& BitVec.ofInt (64 : Nat) 31)) : Int))) fun v3 =>
 (if v3 < 0 then
 False
 else
 K (wu32 (↑(BitVec.toNat (BitVec.ofInt (32 : Nat) v2 ||| BitVec.ofInt (32 : Nat) (Int.fdiv a0 (2 ^ Min.min (Int.toNat v3) (32 : Nat))))) : Int)))))
def Xmath_bits_RotateLeft32 : Tmath_bits_RotateLeft32 := Ymath_bits_RotateLeft32
def Jmath_bits_RotateLeft32 (X : Tmath_bits_RotateLeft32) : Inst := mkI 19 pL9 .nil pL10 .nil X
def Imath_bits_RotateLeft32 : Inst := Jmath_bits_RotateLeft32 Xmath_bits_RotateLeft32
theorem Emath_bits_RotateLeft32 : EqF Try.prog 17 gives Try.f19 [] [] (Jmath_bits_RotateLeft32 (Ymath_bits_RotateLeft32)) := fun x y K => by kernel_rfl
theorem Imath_bits_RotateLeft32_ok : InstOk Try.prog G.1 Imath_bits_RotateLeft32 := iok (gives := gives) [] okNil 17 follows Try.func19 (by kernel_rfl) (fun x => by kernel_rfl) (Emath_bits_RotateLeft32)

/- (*epact/sha.state).step -/
abbrev Tsha_state_step : Type := Int → Int → Int → Int → Int → Int → Int → Int → (Int → Int → Int → Int → Int → Prop) → Prop
def Ysha_state_step (xmath_bits_RotateLeft32 : Tmath_bits_RotateLeft32) (a0 : Int) (a1 : Int) (a2 : Int) (a3 : Int) (a4 : Int) (a5 : Int) (a6 : Int) (a7 : Int) (K : Int → Int → Int → Int → Int → Prop) : Prop :=
 xmath_bits_RotateLeft32 a3 5 (fun r8 =>
 (lt (wu32 (wu32 (r8 + a0) + a7)) fun v9 =>
 (lt (wu32 (wu32 (v9 + a1) + a2)) fun v10 =>
 xmath_bits_RotateLeft32 a4 30 (fun r11 =>
 K v10 a3 r11 a5 a6))))
def Xsha_state_step : Tsha_state_step := Ysha_state_step Xmath_bits_RotateLeft32
def Jsha_state_step (X : Tsha_state_step) : Inst := mkI 20 pL11 pH12 .nil pH12 X
def Isha_state_step : Inst := Jsha_state_step Xsha_state_step
theorem Esha_state_step (xmath_bits_RotateLeft32 : Tmath_bits_RotateLeft32) : EqF Try.prog 58 gives Try.f20 [Jmath_bits_RotateLeft32 xmath_bits_RotateLeft32] [] (Jsha_state_step (Ysha_state_step xmath_bits_RotateLeft32)) := fun x y K => by kernel_rfl
theorem Isha_state_step_ok : InstOk Try.prog G.1 Isha_state_step := iok (gives := gives) [] (okCons Imath_bits_RotateLeft32_ok okNil) 58 follows Try.func20 (by kernel_rfl) (fun x => by kernel_rfl) (Esha_state_step Xmath_bits_RotateLeft32)

/- (*epact/sha.state).block -/
abbrev Tsha_state_block : Type := (List Eng.V) → Int → Int → Int → Int → Int → (Int → Int → Int → Int → Int → Prop) → Prop
def Lsha_state_block_4p : Lp := ⟨261336857795280739939871698507597986398209, [], .nil, .nil, 12⟩
def Lsha_state_block_3 (xsha_state_step : Tsha_state_step) (K : Int → Int → Int → Int → Int → Prop) (a1 : Int) (a2 : Int) (a3 : Int) (a4 : Int) (a5 : Int) (k6 : Q13 → Prop) (k16 : Q14 → Prop) : (Q15 → Prop) → Q15 → Prop := fun k26 x27 =>
 (if decide (x27.1.2.2.2.1 < 80) then
 (if 0 ≤ x27.1.2.2.2.1 ∧ x27.1.2.2.2.1 < 80 then
 (Eng.asInt IntKind.u32 (x27.1.2.2.1[Int.toNat x27.1.2.2.2.1 * (1 : Nat)]?) False fun n28 =>
 (if (w64 (Int.tdiv x27.1.2.2.2.1 20) == 0) then
 (lt (wu32 (↑(BitVec.toNat (BitVec.ofInt (32 : Nat) x27.2.1.2.1 &&& BitVec.ofInt (32 : Nat) (wu32 (↑(BitVec.toNat (BitVec.ofInt (32 : Nat) x27.2.1.2.2.1 ^^^ BitVec.ofInt (32 : Nat) x27.2.1.2.2.2.1)) : Int)))) : Int)) fun v29 =>
 xsha_state_step (wu32 (↑(BitVec.toNat (BitVec.ofInt (32 : Nat) x27.2.1.2.2.2.1 ^^^ BitVec.ofInt (32 : Nat) v29)) : Int)) 1518500249 n28 x27.2.1.1 x27.2.1.2.1 x27.2.1.2.2.1 x27.2.1.2.2.2.1 x27.2.1.2.2.2.2.1 (fun r30 r31 r32 r33 r34 =>
 k26 (((), (), x27.1.2.2.1, w64 (x27.1.2.2.2.1 + 1), ()), (r30, r31, r32, r33, r34, ()), x27.2.2)))
 else
 (if (w64 (Int.tdiv x27.1.2.2.2.1 20) == 1) then
 (lt (wu32 (↑(BitVec.toNat (BitVec.ofInt (32 : Nat) (wu32 (↑(BitVec.toNat (BitVec.ofInt (32 : Nat) x27.2.1.2.1 ^^^ BitVec.ofInt (32 : Nat) x27.2.1.2.2.1)) : Int)) ^^^ BitVec.ofInt (32 : Nat) x27.2.1.2.2.2.1)) : Int)) fun v35 =>
 xsha_state_step v35 1859775393 n28 x27.2.1.1 x27.2.1.2.1 x27.2.1.2.2.1 x27.2.1.2.2.2.1 x27.2.1.2.2.2.2.1 (fun r36 r37 r38 r39 r40 =>
 k26 (((), (), x27.1.2.2.1, w64 (x27.1.2.2.2.1 + 1), ()), (r36, r37, r38, r39, r40, ()), x27.2.2)))
 else
 (if (w64 (Int.tdiv x27.1.2.2.2.1 20) == 2) then
 (lt (wu32 (↑(BitVec.toNat (BitVec.ofInt (32 : Nat) x27.2.1.2.2.2.1 &&& BitVec.ofInt (32 : Nat) (wu32 (↑(BitVec.toNat (BitVec.ofInt (32 : Nat) x27.2.1.2.1 ||| BitVec.ofInt (32 : Nat) x27.2.1.2.2.1)) : Int)))) : Int)) fun v41 =>
 (lt (wu32 (↑(BitVec.toNat (BitVec.ofInt (32 : Nat) (wu32 (↑(BitVec.toNat (BitVec.ofInt (32 : Nat) x27.2.1.2.1 &&& BitVec.ofInt (32 : Nat) x27.2.1.2.2.1)) : Int)) ||| BitVec.ofInt (32 : Nat) v41)) : Int)) fun v42 =>
 xsha_state_step v42 2400959708 n28 x27.2.1.1 x27.2.1.2.1 x27.2.1.2.2.1 x27.2.1.2.2.2.1 x27.2.1.2.2.2.2.1 (fun r43 r44 r45 r46 r47 =>
 k26 (((), (), x27.1.2.2.1, w64 (x27.1.2.2.2.1 + 1), ()), (r43, r44, r45, r46, r47, ()), x27.2.2))))
 else
 (lt (wu32 (↑(BitVec.toNat (BitVec.ofInt (32 : Nat) (wu32 (↑(BitVec.toNat (BitVec.ofInt (32 : Nat) x27.2.1.2.1 ^^^ BitVec.ofInt (32 : Nat) x27.2.1.2.2.1)) : Int)) ^^^ BitVec.ofInt (32 : Nat) x27.2.1.2.2.2.1)) : Int)) fun v48 =>
 xsha_state_step v48 3395469782 n28 x27.2.1.1 x27.2.1.2.1 x27.2.1.2.2.1 x27.2.1.2.2.2.1 x27.2.1.2.2.2.2.1 (fun r49 r50 r51 r52 r53 =>
 k26 (((), (), x27.1.2.2.1, w64 (x27.1.2.2.2.1 + 1), ()), (r49, r50, r51, r52, r53, ()), x27.2.2)))))))
 else
 False)
 else
 K (wu32 (x27.2.1.1 + x27.2.2.1.1)) (wu32 (x27.2.1.2.1 + x27.2.2.1.2.1)) (wu32 (x27.2.1.2.2.1 + x27.2.2.1.2.2.1)) (wu32 (x27.2.1.2.2.2.1 + x27.2.2.1.2.2.2.1)) (wu32 (x27.2.1.2.2.2.2.1 + x27.2.2.1.2.2.2.2.1)))
def Lsha_state_block_3p : Lp := ⟨14167099448608935641601, [.trim 14167099448608935641601], pT16, pH17, 0⟩
def Lsha_state_block_2 (xmath_bits_RotateLeft32 : Tmath_bits_RotateLeft32) (xsha_state_step : Tsha_state_step) (K : Int → Int → Int → Int → Int → Prop) (a1 : Int) (a2 : Int) (a3 : Int) (a4 : Int) (a5 : Int) (k6 : Q13 → Prop) : (Q14 → Prop) → Q14 → Prop := fun k16 x17 =>
 (if decide (x17.1.2.2.1 < 80) then
 (if 0 ≤ w64 (x17.1.2.2.1 - 3) ∧ w64 (x17.1.2.2.1 - 3) < 80 then
 (Eng.asInt IntKind.u32 (Eng.getC x17.2.2.1 (0 : Nat) ((0 : Nat) + Int.toNat (w64 (x17.1.2.2.1 - 3)) * (1 : Nat))) False fun n18 =>
 (if 0 ≤ w64 (x17.1.2.2.1 - 8) ∧ w64 (x17.1.2.2.1 - 8) < 80 then
 (Eng.asInt IntKind.u32 (Eng.getC x17.2.2.1 (0 : Nat) ((0 : Nat) + Int.toNat (w64 (x17.1.2.2.1 - 8)) * (1 : Nat))) False fun n19 =>
 (if 0 ≤ w64 (x17.1.2.2.1 - 14) ∧ w64 (x17.1.2.2.1 - 14) < 80 then
 (Eng.asInt IntKind.u32 (Eng.getC x17.2.2.1 (0 : Nat) ((0 : Nat) + Int.toNat (w64 (x17.1.2.2.1 - 14)) * (1 : Nat))) False fun n20 =>
 (lt (wu32 (↑(BitVec.toNat (BitVec.ofInt (32 : Nat) (wu32 (↑(BitVec.toNat (BitVec.ofInt (32 : Nat) n18 ^^^ BitVec.ofInt (32 : Nat) n19)) : Int)) ^^^ BitVec.ofInt (32 : Nat) n20)) : Int)) fun v21 =>
 (if 0 ≤ w64 (x17.1.2.2.1 - 16) ∧ w64 (x17.1.2.2.1 - 16) < 80 then
 (Eng.asInt IntKind.u32 (Eng.getC x17.2.2.1 (0 : Nat) ((0 : Nat) + Int.toNat (w64 (x17.1.2.2.1 - 16)) * (1 : Nat))) False fun n22 =>
 xmath_bits_RotateLeft32 (wu32 (↑(BitVec.toNat (BitVec.ofInt (32 : Nat) v21 ^^^ BitVec.ofInt (32 : Nat) n22)) : Int)) 1 (fun r23 =>
 (if 0 ≤ x17.1.2.2.1 ∧ x17.1.2.2.1 < 80 then
 (if (0 : Nat) < List.length x17.2.2.1 then
 (if (0 : Nat) + Int.toNat x17.1.2.2.1 * (1 : Nat) + List.length [Eng.V.c (Value.int IntKind.u32 r23)] ≤ (80 : Nat) then
 (lt (List.set x17.2.2.1 (0 : Nat) (Eng.setE (List.getD x17.2.2.1 (0 : Nat) Eng.V.bad) ((0 : Nat) + Int.toNat x17.1.2.2.1 * (1 : Nat)) [Eng.V.c (Value.int IntKind.u32 r23)])) fun v24 =>
 k16 (((), (), w64 (x17.1.2.2.1 + 1), ()), x17.2.1, v24, ()))
 else
 False)
 else
 False)
 else
 False)))
 else
 False)))
 else
 False))
 else
 False))
 else
 False)
 else
 (Eng.asAgg (x17.2.2.1[(0 : Nat)]?) False fun l25 =>
 (if List.length l25 = (80 : Nat) ∧ List.all l25 Eng.isC then
 lp (Lsha_state_block_3 xsha_state_step K a1 a2 a3 a4 a5 k6 k16) (((), (), l25, 0, ()), x17.2.1, x17.2.1, ())
 else
 False)))
def Lsha_state_block_2p : Lp := ⟨273, [.trim 273], pT18, pH19, 0⟩
def Lsha_state_block_1 (K : Int → Int → Int → Int → Int → Prop) (a1 : Int) (a2 : Int) (a3 : Int) (a4 : Int) (a5 : Int) (k6 : Q13 → Prop) : (Q20 → Prop) → Q20 → Prop := fun k10 x11 =>
 (if decide (x11.1.2.2.2.2.2.2.2.1 < x11.1.2.2.2.2.2.2.1) then
 (if 0 ≤ x11.1.2.2.2.2.2.2.2.1 ∧ x11.1.2.2.2.2.2.2.2.1 < (↑(List.length x11.1.2.2.2.2.2.1) : Int) then
 (Eng.asInt IntKind.u8 (Eng.getC x11.1.2.2.2.2.2.1 (Int.toNat x11.1.2.2.2.2.2.2.2.1) (0 : Nat)) False fun n12 =>
 (if 0 ≤ x11.1.2.2.2.1 ∧ x11.1.2.2.2.1 < 80 then
 (Eng.asInt IntKind.u32 (Eng.getC x11.2.2.1 (0 : Nat) ((0 : Nat) + Int.toNat x11.1.2.2.2.1 * (1 : Nat))) False fun n13 =>
 (lt (wu32 (↑(BitVec.toNat (BitVec.ofInt (32 : Nat) (wu32 (n13 * 256)) ||| BitVec.ofInt (32 : Nat) (wu32 n12))) : Int)) fun v14 =>
 (if 0 ≤ x11.1.2.2.2.1 ∧ x11.1.2.2.2.1 < 80 then
 (if (0 : Nat) < List.length x11.2.2.1 then
 (if (0 : Nat) + Int.toNat x11.1.2.2.2.1 * (1 : Nat) + List.length [Eng.V.c (Value.int IntKind.u32 v14)] ≤ (80 : Nat) then
 (lt (List.set x11.2.2.1 (0 : Nat) (Eng.setE (List.getD x11.2.2.1 (0 : Nat) Eng.V.bad) ((0 : Nat) + Int.toNat x11.1.2.2.2.1 * (1 : Nat)) [Eng.V.c (Value.int IntKind.u32 v14)])) fun v15 =>
 k10 (((), x11.1.2.1, (), x11.1.2.2.2.1, x11.1.2.2.2.2.1, x11.1.2.2.2.2.2.1, x11.1.2.2.2.2.2.2.1, w64 (x11.1.2.2.2.2.2.2.2.1 + 1), ()), x11.2.1, v15, ()))
 else
 False)
 else
 False)
 else
 False)))
 else
 False))
 else
 False)
 else
 k6 (((), x11.1.2.1, (), w64 (x11.1.2.2.2.2.1 + 1), ()), x11.2))
def Lsha_state_block_1p : Lp := ⟨469893171, [.trim 469893171], pT21, pH19, 0⟩
def Lsha_state_block_0 (xmath_bits_RotateLeft32 : Tmath_bits_RotateLeft32) (xsha_state_step : Tsha_state_step) (K : Int → Int → Int → Int → Int → Prop) (a1 : Int) (a2 : Int) (a3 : Int) (a4 : Int) (a5 : Int) : (Q13 → Prop) → Q13 → Prop := fun k6 x7 =>
 (if decide (x7.1.2.2.2.1 < 16) then
 (lt (w64 (w64 (4 * x7.1.2.2.2.1) + 4)) fun v8 =>
 (if 0 ≤ v8 ∧ v8 ≤ (↑(List.length x7.1.2.1) : Int) then
 (if 0 ≤ w64 (4 * x7.1.2.2.2.1) ∧ w64 (4 * x7.1.2.2.2.1) ≤ v8 then
 (lt (Eng.cutL x7.1.2.1 (Int.toNat (w64 (4 * x7.1.2.2.2.1))) (Int.toNat v8 - Int.toNat (w64 (4 * x7.1.2.2.2.1)))) fun v9 =>
 lp (Lsha_state_block_1 K a1 a2 a3 a4 a5 k6) (((), x7.1.2.1, (), x7.1.2.2.2.1, x7.1.2.2.2.1, v9, (↑(List.length v9) : Int), 0, ()), x7.2))
 else
 False)
 else
 False))
 else
 lp (Lsha_state_block_2 xmath_bits_RotateLeft32 xsha_state_step K a1 a2 a3 a4 a5 k6) (((), (), 16, ()), x7.2))
def Lsha_state_block_0p : Lp := ⟨131091, [.trim 131091], pT22, pH19, 0⟩
def Ysha_state_block (xmath_bits_RotateLeft32 : Tmath_bits_RotateLeft32) (xsha_state_step : Tsha_state_step) (a0 : (List Eng.V)) (a1 : Int) (a2 : Int) (a3 : Int) (a4 : Int) (a5 : Int) (K : Int → Int → Int → Int → Int → Prop) : Prop :=
 lp (Lsha_state_block_0 xmath_bits_RotateLeft32 xsha_state_step K a1 a2 a3 a4 a5) (((), a0, (), 0, ()), (a1, a2, a3, a4, a5, ()), [Eng.V.agg [Eng.V.c (Value.int IntKind.u32 0), Eng.V.c (Value.int IntKind.u32 0), Eng.V.c (Value.int IntKind.u32 0), Eng.V.c (Value.int IntKind.u32 0), Eng.V.c (Value.int IntKind.u32 0), Eng.V.c (Value.int IntKind.u32 0), Eng.V.c (Value.int IntKind.u32 0), Eng.V.c (Value.int IntKind.u32 0), Eng.V.c (Value.int IntKind.u32 0), Eng.V.c (Value.int IntKind.u32 0), Eng.V.c (Value.int IntKind.u32 0), Eng.V.c (Value.int IntKind.u32 0), Eng.V.c (Value.int IntKind.u32 0), Eng.V.c (Value.int IntKind.u32 0), Eng.V.c (Value.int IntKind.u32 0), Eng.V.c (Value.int IntKind.u32 0), Eng.V.c (Value.int IntKind.u32 0), Eng.V.c (Value.int IntKind.u32 0), Eng.V.c (Value.int IntKind.u32 0), Eng.V.c (Value.int IntKind.u32 0), Eng.V.c (Value.int IntKind.u32 0), Eng.V.c (Value.int IntKind.u32 0), Eng.V.c (Value.int IntKind.u32 0), Eng.V.c (Value.int IntKind.u32 0), Eng.V.c (Value.int IntKind.u32 0), Eng.V.c (Value.int IntKind.u32 0), Eng.V.c (Value.int IntKind.u32 0), Eng.V.c (Value.int IntKind.u32 0), Eng.V.c (Value.int IntKind.u32 0), Eng.V.c (Value.int IntKind.u32 0), Eng.V.c (Value.int IntKind.u32 0), Eng.V.c (Value.int IntKind.u32 0), Eng.V.c (Value.int IntKind.u32 0), Eng.V.c (Value.int IntKind.u32 0), Eng.V.c (Value.int IntKind.u32 0), Eng.V.c (Value.int IntKind.u32 0), Eng.V.c (Value.int IntKind.u32 0), Eng.V.c (Value.int IntKind.u32 0), Eng.V.c (Value.int IntKind.u32 0), Eng.V.c (Value.int IntKind.u32 0), Eng.V.c (Value.int IntKind.u32 0), Eng.V.c (Value.int IntKind.u32 0), Eng.V.c (Value.int IntKind.u32 0), Eng.V.c (Value.int IntKind.u32 0), Eng.V.c (Value.int IntKind.u32 0), Eng.V.c (Value.int IntKind.u32 0), Eng.V.c (Value.int IntKind.u32 0), Eng.V.c (Value.int IntKind.u32 0), Eng.V.c (Value.int IntKind.u32 0), Eng.V.c (Value.int IntKind.u32 0), Eng.V.c (Value.int IntKind.u32 0), Eng.V.c (Value.int IntKind.u32 0), Eng.V.c (Value.int IntKind.u32 0), Eng.V.c (Value.int IntKind.u32 0), Eng.V.c (Value.int IntKind.u32 0), Eng.V.c (Value.int IntKind.u32 0), Eng.V.c (Value.int IntKind.u32 0), Eng.V.c (Value.int IntKind.u32 0), Eng.V.c (Value.int IntKind.u32 0), Eng.V.c (Value.int IntKind.u32 0), Eng.V.c (Value.int IntKind.u32 0), Eng.V.c (Value.int IntKind.u32 0), Eng.V.c (Value.int IntKind.u32 0), Eng.V.c (Value.int IntKind.u32 0), Eng.V.c (Value.int IntKind.u32 0), Eng.V.c (Value.int IntKind.u32 0), Eng.V.c (Value.int IntKind.u32 0), Eng.V.c (Value.int IntKind.u32 0), Eng.V.c (Value.int IntKind.u32 0), Eng.V.c (Value.int IntKind.u32 0), Eng.V.c (Value.int IntKind.u32 0), Eng.V.c (Value.int IntKind.u32 0), Eng.V.c (Value.int IntKind.u32 0), Eng.V.c (Value.int IntKind.u32 0), Eng.V.c (Value.int IntKind.u32 0), Eng.V.c (Value.int IntKind.u32 0), Eng.V.c (Value.int IntKind.u32 0), Eng.V.c (Value.int IntKind.u32 0), Eng.V.c (Value.int IntKind.u32 0), Eng.V.c (Value.int IntKind.u32 0)]], ())
def Xsha_state_block : Tsha_state_block := Ysha_state_block Xmath_bits_RotateLeft32 Xsha_state_step
def Jsha_state_block (X : Tsha_state_block) : Inst := mkI 15 pL23 pH12 .nil pH12 X
def Isha_state_block : Inst := Jsha_state_block Xsha_state_block
theorem Esha_state_block (xmath_bits_RotateLeft32 : Tmath_bits_RotateLeft32) (xsha_state_step : Tsha_state_step) : EqF Try.prog 151 gives Try.f15 [Jmath_bits_RotateLeft32 xmath_bits_RotateLeft32, Jsha_state_step xsha_state_step] [Lsha_state_block_0p, Lsha_state_block_1p, Lsha_state_block_2p, Lsha_state_block_3p, Lsha_state_block_4p] (Jsha_state_block (Ysha_state_block xmath_bits_RotateLeft32 xsha_state_step)) := fun x y K => by kernel_rfl
theorem Isha_state_block_ok : InstOk Try.prog G.1 Isha_state_block := iok (gives := gives) [Lsha_state_block_0p, Lsha_state_block_1p, Lsha_state_block_2p, Lsha_state_block_3p, Lsha_state_block_4p] (okCons Imath_bits_RotateLeft32_ok (okCons Isha_state_step_ok okNil)) 151 follows Try.func15 (by kernel_rfl) (fun x => by kernel_rfl) (Esha_state_block Xmath_bits_RotateLeft32 Xsha_state_step)

/- epact/sha.Sum -/
abbrev Tsha_Sum : Type := (List Eng.V) → (Q24 → Prop) → Prop
def Lsha_Sum_2 (K : Q24 → Prop) (k6 : Q25 → Prop) (k9 : Q26 → Prop) : (Q27 → Prop) → Q27 → Prop := fun k16 x17 =>
 (if decide (x17.1.2.2.1 < 20) then
 (if 0 ≤ w64 (Int.tdiv x17.1.2.2.1 4) ∧ w64 (Int.tdiv x17.1.2.2.1 4) < 5 then
 (Eng.asInt IntKind.u32 ([Eng.V.c (Value.int IntKind.u32 x17.2.2.1.1), Eng.V.c (Value.int IntKind.u32 x17.2.2.1.2.1), Eng.V.c (Value.int IntKind.u32 x17.2.2.1.2.2.1), Eng.V.c (Value.int IntKind.u32 x17.2.2.1.2.2.2.1), Eng.V.c (Value.int IntKind.u32 x17.2.2.1.2.2.2.2.1)][(0 : Nat) + Int.toNat (w64 (Int.tdiv x17.1.2.2.1 4)) * (1 : Nat)]?) False fun n18 =>
 (lt (w64 (24 - w64 (Int.tmod x17.1.2.2.1 (4 :Int) * 8))) fun v19 =>
 (if v19 < 0 then
 False
 else
 (if 0 ≤ x17.1.2.2.1 ∧ x17.1.2.2.1 < 20 then
 (if (0 : Nat) < List.length x17.2.1 then
 (if (0 : Nat) + Int.toNat x17.1.2.2.1 * (1 : Nat) + List.length [Eng.V.c (Value.int IntKind.u8 (wu8 (Int.fdiv n18 (2 ^ Min.min (Int.toNat v19) (32 : Nat)))))] ≤ (20 : Nat) then
 (lt (List.set x17.2.1 (0 : Nat) (Eng.setE (List.getD x17.2.1 (0 : Nat) Eng.V.bad) ((0 : Nat) + Int.toNat x17.1.2.2.1 * (1 : Nat)) [Eng.V.c (Value.int IntKind.u8 (wu8 (Int.fdiv n18 (2 ^ Min.min (Int.toNat v19) (32 : Nat)))))])) fun v20 =>
 k16 (((), (), w64 (x17.1.2.2.1 + 1), ()), v20, x17.2.2))
 else
 False)
 else
 False)
 else
 False))))
 else
 False)
 else
 (Eng.asInt IntKind.u8 (Eng.getC x17.2.1 (0 : Nat) (0 : Nat)) False fun n21 =>
 (Eng.asInt IntKind.u8 (Eng.getC x17.2.1 (0 : Nat) (1 : Nat)) False fun n22 =>
 (Eng.asInt IntKind.u8 (Eng.getC x17.2.1 (0 : Nat) (2 : Nat)) False fun n23 =>
 (Eng.asInt IntKind.u8 (Eng.getC x17.2.1 (0 : Nat) (3 : Nat)) False fun n24 =>
 (Eng.asInt IntKind.u8 (Eng.getC x17.2.1 (0 : Nat) (4 : Nat)) False fun n25 =>
 (Eng.asInt IntKind.u8 (Eng.getC x17.2.1 (0 : Nat) (5 : Nat)) False fun n26 =>
 (Eng.asInt IntKind.u8 (Eng.getC x17.2.1 (0 : Nat) (6 : Nat)) False fun n27 =>
 (Eng.asInt IntKind.u8 (Eng.getC x17.2.1 (0 : Nat) (7 : Nat)) False fun n28 =>
 (Eng.asInt IntKind.u8 (Eng.getC x17.2.1 (0 : Nat) (8 : Nat)) False fun n29 =>
 (Eng.asInt IntKind.u8 (Eng.getC x17.2.1 (0 : Nat) (9 : Nat)) False fun n30 =>
 (Eng.asInt IntKind.u8 (Eng.getC x17.2.1 (0 : Nat) (10 : Nat)) False fun n31 =>
 (Eng.asInt IntKind.u8 (Eng.getC x17.2.1 (0 : Nat) (11 : Nat)) False fun n32 =>
 (Eng.asInt IntKind.u8 (Eng.getC x17.2.1 (0 : Nat) (12 : Nat)) False fun n33 =>
 (Eng.asInt IntKind.u8 (Eng.getC x17.2.1 (0 : Nat) (13 : Nat)) False fun n34 =>
 (Eng.asInt IntKind.u8 (Eng.getC x17.2.1 (0 : Nat) (14 : Nat)) False fun n35 =>
 (Eng.asInt IntKind.u8 (Eng.getC x17.2.1 (0 : Nat) (15 : Nat)) False fun n36 =>
 (Eng.asInt IntKind.u8 (Eng.getC x17.2.1 (0 : Nat) (16 : Nat)) False fun n37 =>
 (Eng.asInt IntKind.u8 (Eng.getC x17.2.1 (0 : Nat) (17 : Nat)) False fun n38 =>
 (Eng.asInt IntKind.u8 (Eng.getC x17.2.1 (0 : Nat) (18 : Nat)) False fun n39 =>
 (Eng.asInt IntKind.u8 (Eng.getC x17.2.1 (0 : Nat) (19 : Nat)) False fun n40 =>
 (if (0 : Nat) < List.length x17.2.1 then
 (lt (List.set x17.2.1 (0 : Nat) (Eng.setE (List.getD x17.2.1 (0 : Nat) Eng.V.bad) (0 : Nat) [Eng.V.c (Value.int IntKind.u8 n21), Eng.V.c (Value.int IntKind.u8 n22), Eng.V.c (Value.int IntKind.u8 n23), Eng.V.c (Value.int IntKind.u8 n24), Eng.V.c (Value.int IntKind.u8 n25), Eng.V.c (Value.int IntKind.u8 n26), Eng.V.c (Value.int IntKind.u8 n27), Eng.V.c (Value.int IntKind.u8 n28), Eng.V.c (Value.int IntKind.u8 n29), Eng.V.c (Value.int IntKind.u8 n30), Eng.V.c (Value.int IntKind.u8 n31), Eng.V.c (Value.int IntKind.u8 n32), Eng.V.c (Value.int IntKind.u8 n33), Eng.V.c (Value.int IntKind.u8 n34), Eng.V.c (Value.int IntKind.u8 n35), Eng.V.c (Value.int IntKind.u8 n36), Eng.V.c (Value.int IntKind.u8 n37), Eng.V.c (Value.int IntKind.u8 n38), Eng.V.c (Value.int IntKind.u8 n39), Eng.V.c (Value.int IntKind.u8 n40)])) fun v41 =>
 (Eng.asInt IntKind.u8 (Eng.getC v41 (0 : Nat) (0 : Nat)) False fun n42 =>
 (Eng.asInt IntKind.u8 (Eng.getC v41 (0 : Nat) (1 : Nat)) False fun n43 =>
 (Eng.asInt IntKind.u8 (Eng.getC v41 (0 : Nat) (2 : Nat)) False fun n44 =>
 (Eng.asInt IntKind.u8 (Eng.getC v41 (0 : Nat) (3 : Nat)) False fun n45 =>
 (Eng.asInt IntKind.u8 (Eng.getC v41 (0 : Nat) (4 : Nat)) False fun n46 =>
 (Eng.asInt IntKind.u8 (Eng.getC v41 (0 : Nat) (5 : Nat)) False fun n47 =>
 (Eng.asInt IntKind.u8 (Eng.getC v41 (0 : Nat) (6 : Nat)) False fun n48 =>
 (Eng.asInt IntKind.u8 (Eng.getC v41 (0 : Nat) (7 : Nat)) False fun n49 =>
 (Eng.asInt IntKind.u8 (Eng.getC v41 (0 : Nat) (8 : Nat)) False fun n50 =>
 (Eng.asInt IntKind.u8 (Eng.getC v41 (0 : Nat) (9 : Nat)) False fun n51 =>
 (Eng.asInt IntKind.u8 (Eng.getC v41 (0 : Nat) (10 : Nat)) False fun n52 =>
 (Eng.asInt IntKind.u8 (Eng.getC v41 (0 : Nat) (11 : Nat)) False fun n53 =>
 (Eng.asInt IntKind.u8 (Eng.getC v41 (0 : Nat) (12 : Nat)) False fun n54 =>
 (Eng.asInt IntKind.u8 (Eng.getC v41 (0 : Nat) (13 : Nat)) False fun n55 =>
 (Eng.asInt IntKind.u8 (Eng.getC v41 (0 : Nat) (14 : Nat)) False fun n56 =>
 (Eng.asInt IntKind.u8 (Eng.getC v41 (0 : Nat) (15 : Nat)) False fun n57 =>
 (Eng.asInt IntKind.u8 (Eng.getC v41 (0 : Nat) (16 : Nat)) False fun n58 =>
 (Eng.asInt IntKind.u8 (Eng.getC v41 (0 : Nat) (17 : Nat)) False fun n59 =>
 (Eng.asInt IntKind.u8 (Eng.getC v41 (0 : Nat) (18 : Nat)) False fun n60 =>
 (Eng.asInt IntKind.u8 (Eng.getC v41 (0 : Nat) (19 : Nat)) False fun n61 =>
 K (n42, n43, n44, n45, n46, n47, n48, n49, n50, n51, n52, n53, n54, n55, n56, n57, n58, n59, n60, n61, ()))))))))))))))))))))))
 else
 False))))))))))))))))))))))
def Lsha_Sum_2p : Lp := ⟨35184372088900, [.trim 35184372088900], pT28, pH29, 0⟩
def Lsha_Sum_1 (xsha_state_block : Tsha_state_block) (K : Q24 → Prop) (k6 : Q25 → Prop) : (Q26 → Prop) → Q26 → Prop := fun k9 x10 =>
 (if decide ((↑(List.length x10.1.2.1) : Int) > 0) then
 (if (0 :Int) ≤ 64 ∧ 64 ≤ (↑(List.length x10.1.2.1) : Int) then
 xsha_state_block (Eng.cutL x10.1.2.1 (0 : Nat) (64 : Nat)) x10.2.2.1.1 x10.2.2.1.2.1 x10.2.2.1.2.2.1 x10.2.2.1.2.2.2.1 x10.2.2.1.2.2.2.2.1 (fun r11 r12 r13 r14 r15 =>
 (if 0 ≤ (↑(List.length x10.1.2.1) : Int) ∧ (↑(List.length x10.1.2.1) : Int) ≤ (↑(List.length x10.1.2.1) : Int) then
 (if (0 :Int) ≤ 64 ∧ 64 ≤ (↑(List.length x10.1.2.1) : Int) then
 k9 (((), Eng.cutL x10.1.2.1 (64 : Nat) (Int.toNat (↑(List.length x10.1.2.1) : Int) - (64 : Nat)), (), ()), x10.2.1, (r11, r12, r13, r14, r15, ()), ())
 else
 False)
 else
 False))
 else
 False)
 else
 lp (Lsha_Sum_2 K k6 k9) (((), (), 0, ()), x10.2))
def Lsha_Sum_1p : Lp := ⟨76, [.trim 76, .thin 208, .trim 76], pT30, pH29, 0⟩
def Lsha_Sum_0 (xsha_state_block : Tsha_state_block) (K : Q24 → Prop) : (Q25 → Prop) → Q25 → Prop := fun k6 x7 =>
 (if decide (x7.1.2.2.2.1 ≥ 0) then
 (if w64 (8 * x7.1.2.2.2.1) < 0 then
 False
 else
 (lt (wu8 (Int.fdiv x7.1.2.2.1 (2 ^ Min.min (Int.toNat (w64 (8 * x7.1.2.2.2.1))) (64 : Nat)))) fun v8 =>
 (if x7.2.2.1.2.1 then
 (if Eng.roomOk (List.length x7.2.2.1.1 + List.length [Eng.V.c (Value.int IntKind.u8 v8)]) (1 : Nat) then
 k6 (((), (), x7.1.2.2.1, w64 (x7.1.2.2.2.1 - 1), ()), x7.2.1, (x7.2.2.1.1 ++ [Eng.V.c (Value.int IntKind.u8 v8)], x7.2.2.1.2), ())
 else
 False)
 else
 False)))
 else
 lp (Lsha_Sum_1 xsha_state_block K k6) (((), x7.2.2.1.1, (), ()), x7.2.1, (1732584193, 4023233417, 2562383102, 271733878, 3285377520, ()), ()))
def Lsha_Sum_0p : Lp := ⟨60, [.trim 60], pT31, pH32, 0⟩
def Ysha_Sum (xslices_Concat___byte_byte_ : Tslices_Concat___byte_byte_) (xsha_state_block : Tsha_state_block) (a0 : (List Eng.V)) (K : Q24 → Prop) : Prop :=
 xslices_Concat___byte_byte_ a0 (fun r1 r2 r3 =>
 (if r2 then
 (if Eng.roomOk (List.length r1 + (1 : Nat)) (1 : Nat) then
 (lt (w64 (184 - Int.tmod (↑(List.length (r1 ++ [Eng.V.c (Value.int IntKind.u8 128)])) : Int) 64)) fun v4 =>
 (if 0 ≤ Int.tmod v4 64 ∧ Int.tmod v4 (64 :Int) ≤ 4398046511104 then
 (if r2 then
 (if Eng.roomOk (List.length (r1 ++ [Eng.V.c (Value.int IntKind.u8 128)]) + List.length (List.replicate (Int.toNat (Int.tmod v4 64)) (Eng.ofVal (Value.int IntKind.u8 0)))) (1 : Nat) then
 (lt (r1 ++ [Eng.V.c (Value.int IntKind.u8 128)] ++ List.replicate (Int.toNat (Int.tmod v4 64)) (Eng.ofVal (Value.int IntKind.u8 0))) fun v5 =>
 lp (Lsha_Sum_0 xsha_state_block K) (((), (), wu64 (wu64 (↑(List.length r1) : Int) * 8), 7, ()), [Eng.V.agg [Eng.V.c (Value.int IntKind.u8 0), Eng.V.c (Value.int IntKind.u8 0), Eng.V.c (Value.int IntKind.u8 0), Eng.V.c (Value.int IntKind.u8 0), Eng.V.c (Value.int IntKind.u8 0), Eng.V.c (Value.int IntKind.u8 0), Eng.V.c (Value.int IntKind.u8 0), Eng.V.c (Value.int IntKind.u8 0), Eng.V.c (Value.int IntKind.u8 0), Eng.V.c (Value.int IntKind.u8 0), Eng.V.c (Value.int IntKind.u8 0), Eng.V.c (Value.int IntKind.u8 0), Eng.V.c (Value.int IntKind.u8 0), Eng.V.c (Value.int IntKind.u8 0), Eng.V.c (Value.int IntKind.u8 0), Eng.V.c (Value.int IntKind.u8 0), Eng.V.c (Value.int IntKind.u8 0), Eng.V.c (Value.int IntKind.u8 0), Eng.V.c (Value.int IntKind.u8 0), Eng.V.c (Value.int IntKind.u8 0)]], (v5, r2, r3), ()))
 else
 False)
 else
 False)
 else
 False))
 else
 False)
 else
 False))
def Xsha_Sum : Tsha_Sum := Ysha_Sum Xslices_Concat___byte_byte_ Xsha_state_block
def Jsha_Sum (X : Tsha_Sum) : Inst := mkI 8 pL8 .nil pL33 .nil X
def Isha_Sum : Inst := Jsha_Sum Xsha_Sum
theorem Esha_Sum (xslices_Concat___byte_byte_ : Tslices_Concat___byte_byte_) (xsha_state_block : Tsha_state_block) : EqF Try.prog 62 gives Try.f8 [Jslices_Concat___byte_byte_ xslices_Concat___byte_byte_, Jsha_state_block xsha_state_block] [Lsha_Sum_0p, Lsha_Sum_1p, Lsha_Sum_2p] (Jsha_Sum (Ysha_Sum xslices_Concat___byte_byte_ xsha_state_block)) := fun x y K => by kernel_rfl
theorem Isha_Sum_ok : InstOk Try.prog G.1 Isha_Sum := iok (gives := gives) [Lsha_Sum_0p, Lsha_Sum_1p, Lsha_Sum_2p] (okCons Islices_Concat___byte_byte__ok (okCons Isha_state_block_ok okNil)) 62 follows Try.func8 (by kernel_rfl) (fun x => by kernel_rfl) (Esha_Sum Xslices_Concat___byte_byte_ Xsha_state_block)

/- epact/sha.Words -/
abbrev Tsha_Words : Type := Q24 → (Q34 → Prop) → Prop
def Lsha_Words_0 (K : Q34 → Prop) : (Q35 → Prop) → Q35 → Prop := fun k1 x2 =>
 (if decide (x2.1.2.2.1 < 20) then
 (if 0 ≤ x2.1.2.2.1 ∧ x2.1.2.2.1 < 20 then
 (Eng.asInt IntKind.u8 ([Eng.V.c (Value.int IntKind.u8 x2.1.2.1.1), Eng.V.c (Value.int IntKind.u8 x2.1.2.1.2.1), Eng.V.c (Value.int IntKind.u8 x2.1.2.1.2.2.1), Eng.V.c (Value.int IntKind.u8 x2.1.2.1.2.2.2.1), Eng.V.c (Value.int IntKind.u8 x2.1.2.1.2.2.2.2.1), Eng.V.c (Value.int IntKind.u8 x2.1.2.1.2.2.2.2.2.1), Eng.V.c (Value.int IntKind.u8 x2.1.2.1.2.2.2.2.2.2.1), Eng.V.c (Value.int IntKind.u8 x2.1.2.1.2.2.2.2.2.2.2.1), Eng.V.c (Value.int IntKind.u8 x2.1.2.1.2.2.2.2.2.2.2.2.1), Eng.V.c (Value.int IntKind.u8 x2.1.2.1.2.2.2.2.2.2.2.2.2.1), Eng.V.c (Value.int IntKind.u8 x2.1.2.1.2.2.2.2.2.2.2.2.2.2.1), Eng.V.c (Value.int IntKind.u8 x2.1.2.1.2.2.2.2.2.2.2.2.2.2.2.1), Eng.V.c (Value.int IntKind.u8 x2.1.2.1.2.2.2.2.2.2.2.2.2.2.2.2.1), Eng.V.c (Value.int IntKind.u8 x2.1.2.1.2.2.2.2.2.2.2.2.2.2.2.2.2.1), Eng.V.c (Value.int IntKind.u8 x2.1.2.1.2.2.2.2.2.2.2.2.2.2.2.2.2.2.1), Eng.V.c (Value.int IntKind.u8 x2.1.2.1.2.2.2.2.2.2.2.2.2.2.2.2.2.2.2.1), Eng.V.c (Value.int IntKind.u8 x2.1.2.1.2.2.2.2.2.2.2.2.2.2.2.2.2.2.2.2.1), Eng.V.c (Value.int IntKind.u8 x2.1.2.1.2.2.2.2.2.2.2.2.2.2.2.2.2.2.2.2.2.1), Eng.V.c (Value.int IntKind.u8 x2.1.2.1.2.2.2.2.2.2.2.2.2.2.2.2.2.2.2.2.2.2.1), Eng.V.c (Value.int IntKind.u8 x2.1.2.1.2.2.2.2.2.2.2.2.2.2.2.2.2.2.2.2.2.2.2.1)][Int.toNat x2.1.2.2.1 * (1 : Nat)]?) False fun n3 =>
 (if 0 ≤ w64 (Int.tdiv x2.1.2.2.1 4) ∧ w64 (Int.tdiv x2.1.2.2.1 4) < 5 then
 (Eng.asInt IntKind.u32 (Eng.getC x2.2.1 (0 : Nat) ((0 : Nat) + Int.toNat (w64 (Int.tdiv x2.1.2.2.1 4)) * (1 : Nat))) False fun n4 =>
 (lt (wu32 (↑(BitVec.toNat (BitVec.ofInt (32 : Nat) (wu32 (n4 * 256)) ||| BitVec.ofInt (32 : Nat) (wu32 n3))) : Int)) fun v5 =>
 (if 0 ≤ w64 (Int.tdiv x2.1.2.2.1 4) ∧ w64 (Int.tdiv x2.1.2.2.1 4) < 5 then
 (if (0 : Nat) < List.length x2.2.1 then
 (if (0 : Nat) + Int.toNat (w64 (Int.tdiv x2.1.2.2.1 4)) * (1 : Nat) + List.length [Eng.V.c (Value.int IntKind.u32 v5)] ≤ (5 : Nat) then
 (lt (List.set x2.2.1 (0 : Nat) (Eng.setE (List.getD x2.2.1 (0 : Nat) Eng.V.bad) ((0 : Nat) + Int.toNat (w64 (Int.tdiv x2.1.2.2.1 4)) * (1 : Nat)) [Eng.V.c (Value.int IntKind.u32 v5)])) fun v6 =>
 k1 (((), x2.1.2.1, w64 (x2.1.2.2.1 + 1), ()), v6, ()))
 else
 False)
 else
 False)
 else
 False)))
 else
 False))
 else
 False)
 else
 (Eng.asInt IntKind.u32 (Eng.getC x2.2.1 (0 : Nat) (0 : Nat)) False fun n7 =>
 (Eng.asInt IntKind.u32 (Eng.getC x2.2.1 (0 : Nat) (1 : Nat)) False fun n8 =>
 (Eng.asInt IntKind.u32 (Eng.getC x2.2.1 (0 : Nat) (2 : Nat)) False fun n9 =>
 (Eng.asInt IntKind.u32 (Eng.getC x2.2.1 (0 : Nat) (3 : Nat)) False fun n10 =>
 (Eng.asInt IntKind.u32 (Eng.getC x2.2.1 (0 : Nat) (4 : Nat)) False fun n11 =>
 (if (0 : Nat) < List.length x2.2.1 then
 (lt (List.set x2.2.1 (0 : Nat) (Eng.setE (List.getD x2.2.1 (0 : Nat) Eng.V.bad) (0 : Nat) [Eng.V.c (Value.int IntKind.u32 n7), Eng.V.c (Value.int IntKind.u32 n8), Eng.V.c (Value.int IntKind.u32 n9), Eng.V.c (Value.int IntKind.u32 n10), Eng.V.c (Value.int IntKind.u32 n11)])) fun v12 =>
 (Eng.asInt IntKind.u32 (Eng.getC v12 (0 : Nat) (0 : Nat)) False fun n13 =>
 (Eng.asInt IntKind.u32 (Eng.getC v12 (0 : Nat) (1 : Nat)) False fun n14 =>
 (Eng.asInt IntKind.u32 (Eng.getC v12 (0 : Nat) (2 : Nat)) False fun n15 =>
 (Eng.asInt IntKind.u32 (Eng.getC v12 (0 : Nat) (3 : Nat)) False fun n16 =>
 (Eng.asInt IntKind.u32 (Eng.getC v12 (0 : Nat) (4 : Nat)) False fun n17 =>
 K (n13, n14, n15, n16, n17, ())))))))
 else
 False)))))))
def Lsha_Words_0p : Lp := ⟨100, [.trim 100], pT36, pH37, 0⟩
def Ysha_Words (a0 : Q24) (K : Q34 → Prop) : Prop :=
 lp (Lsha_Words_0 K) (((), a0, 0, ()), [Eng.V.agg [Eng.V.c (Value.int IntKind.u32 0), Eng.V.c (Value.int IntKind.u32 0), Eng.V.c (Value.int IntKind.u32 0), Eng.V.c (Value.int IntKind.u32 0), Eng.V.c (Value.int IntKind.u32 0)]], ())
def Xsha_Words : Tsha_Words := Ysha_Words
def Jsha_Words (X : Tsha_Words) : Inst := mkI 10 pL33 .nil pL38 .nil X
def Isha_Words : Inst := Jsha_Words Xsha_Words
theorem Esha_Words : EqF Try.prog 23 gives Try.f10 [] [Lsha_Words_0p] (Jsha_Words (Ysha_Words)) := fun x y K => by kernel_rfl
theorem Isha_Words_ok : InstOk Try.prog G.1 Isha_Words := iok (gives := gives) [Lsha_Words_0p] okNil 23 follows Try.func10 (by kernel_rfl) (fun x => by kernel_rfl) (Esha_Words)

/- epact/sha.Hex -/
abbrev Tsha_Hex : Type := Q24 → (ByteArray → Prop) → Prop
def Lsha_Hex_0 (K : ByteArray → Prop) : (Q39 → Prop) → Q39 → Prop := fun k1 x2 =>
 (if decide (x2.1.2.2.2.1 < 20) then
 (if 0 ≤ x2.1.2.2.2.1 ∧ x2.1.2.2.2.1 < 20 then
 (Eng.asInt IntKind.u8 ([Eng.V.c (Value.int IntKind.u8 x2.1.2.2.1.1), Eng.V.c (Value.int IntKind.u8 x2.1.2.2.1.2.1), Eng.V.c (Value.int IntKind.u8 x2.1.2.2.1.2.2.1), Eng.V.c (Value.int IntKind.u8 x2.1.2.2.1.2.2.2.1), Eng.V.c (Value.int IntKind.u8 x2.1.2.2.1.2.2.2.2.1), Eng.V.c (Value.int IntKind.u8 x2.1.2.2.1.2.2.2.2.2.1), Eng.V.c (Value.int IntKind.u8 x2.1.2.2.1.2.2.2.2.2.2.1), Eng.V.c (Value.int IntKind.u8 x2.1.2.2.1.2.2.2.2.2.2.2.1), Eng.V.c (Value.int IntKind.u8 x2.1.2.2.1.2.2.2.2.2.2.2.2.1), Eng.V.c (Value.int IntKind.u8 x2.1.2.2.1.2.2.2.2.2.2.2.2.2.1), Eng.V.c (Value.int IntKind.u8 x2.1.2.2.1.2.2.2.2.2.2.2.2.2.2.1), Eng.V.c (Value.int IntKind.u8 x2.1.2.2.1.2.2.2.2.2.2.2.2.2.2.2.1), Eng.V.c (Value.int IntKind.u8 x2.1.2.2.1.2.2.2.2.2.2.2.2.2.2.2.2.1), Eng.V.c (Value.int IntKind.u8 x2.1.2.2.1.2.2.2.2.2.2.2.2.2.2.2.2.2.1), Eng.V.c (Value.int IntKind.u8 x2.1.2.2.1.2.2.2.2.2.2.2.2.2.2.2.2.2.2.1), Eng.V.c (Value.int IntKind.u8 x2.1.2.2.1.2.2.2.2.2.2.2.2.2.2.2.2.2.2.2.1), Eng.V.c (Value.int IntKind.u8 x2.1.2.2.1.2.2.2.2.2.2.2.2.2.2.2.2.2.2.2.2.1), Eng.V.c (Value.int IntKind.u8 x2.1.2.2.1.2.2.2.2.2.2.2.2.2.2.2.2.2.2.2.2.2.1), Eng.V.c (Value.int IntKind.u8 x2.1.2.2.1.2.2.2.2.2.2.2.2.2.2.2.2.2.2.2.2.2.2.1), Eng.V.c (Value.int IntKind.u8 x2.1.2.2.1.2.2.2.2.2.2.2.2.2.2.2.2.2.2.2.2.2.2.2.1)][Int.toNat x2.1.2.2.2.1 * (1 : Nat)]?) False fun n3 =>
 (if 0 ≤ Int.fdiv n3 16 ∧ Int.fdiv n3 (16 :Int) < 16 then
 (lt (Eng.bAt (ByteArray.mk #[(48 : UInt8), (49 : UInt8), (50 : UInt8), (51 : UInt8), (52 : UInt8), (53 : UInt8), (54 : UInt8), (55 : UInt8), (56 : UInt8), (57 : UInt8), (97 : UInt8), (98 : UInt8), (99 : UInt8), (100 : UInt8), (101 : UInt8), (102 : UInt8)]) (Int.toNat (Int.fdiv n3 16))) fun v4 =>
 (if 0 ≤ wu8 (↑(BitVec.toNat (BitVec.ofInt (8 : Nat) n3 &&& BitVec.ofInt (8 : Nat) 15)) : Int) ∧ wu8 (↑(BitVec.toNat (BitVec.ofInt (8 : Nat) n3 &&& BitVec.ofInt (8 : Nat) 15)) : Int) < 16 then
 (lt (Eng.bAt (ByteArray.mk #[(48 : UInt8), (49 : UInt8), (50 : UInt8), (51 : UInt8), (52 : UInt8), (53 : UInt8), (54 : UInt8), (55 : UInt8), (56 : UInt8), (57 : UInt8), (97 : UInt8), (98 : UInt8), (99 : UInt8), (100 : UInt8), (101 : UInt8), (102 : UInt8)]) (Int.toNat (wu8 (↑(BitVec.toNat (BitVec.ofInt (8 : Nat) n3 &&& BitVec.ofInt (8 : Nat) 15)) : Int)))) fun v5 =>
 (if Eng.roomOk (List.length x2.2.1 + List.length [Eng.V.c (Value.int IntKind.u8 v4), Eng.V.c (Value.int IntKind.u8 v5)]) (1 : Nat) then
 k1 ((x2.1.1, (), x2.1.2.2.1, w64 (x2.1.2.2.2.1 + 1), ()), x2.2.1 ++ [Eng.V.c (Value.int IntKind.u8 v4), Eng.V.c (Value.int IntKind.u8 v5)], ())
 else
 False))
 else
 False))
 else
 False))
 else
 False)
 else
 (if Eng.allU8 x2.2.1 then
 K (Eng.packB x2.2.1)
 else
 False))
def Lsha_Hex_0p : Lp := ⟨204, [.trim 204, .fat 3 1 416, .trim 204], pT40, pH41, 0⟩
def Ysha_Hex (a0 : Q24) (K : ByteArray → Prop) : Prop :=
 lp (Lsha_Hex_0 K) ((ByteArray.mk #[], (), a0, 0, ()), [], ())
def Xsha_Hex : Tsha_Hex := Ysha_Hex
def Jsha_Hex (X : Tsha_Hex) : Inst := mkI 12 pL33 .nil pL42 .nil X
def Isha_Hex : Inst := Jsha_Hex Xsha_Hex
theorem Esha_Hex : EqF Try.prog 22 gives Try.f12 [] [Lsha_Hex_0p] (Jsha_Hex (Ysha_Hex)) := fun x y K => by kernel_rfl
theorem Isha_Hex_ok : InstOk Try.prog G.1 Isha_Hex := iok (gives := gives) [Lsha_Hex_0p] okNil 22 follows Try.func12 (by kernel_rfl) (fun x => by kernel_rfl) (Esha_Hex)

/- epact/epactlaw06.small -/
abbrev Tepactlaw06_small : Type := (Bool → Prop) → Prop
def Yepactlaw06_small (xsha_Sum : Tsha_Sum) (xsha_Words : Tsha_Words) (xsha_Hex : Tsha_Hex) (K : Bool → Prop) : Prop :=
 xsha_Sum ([Eng.V.sl (1 : Nat) false [Eng.V.c (Value.int IntKind.u8 97), Eng.V.c (Value.int IntKind.u8 98), Eng.V.c (Value.int IntKind.u8 99)]]) (fun r0 =>
 xsha_Sum [] (fun r1 =>
 xsha_Sum ([Eng.V.sl (1 : Nat) false [Eng.V.c (Value.int IntKind.u8 97)], Eng.V.sl (0 : Nat) true [], Eng.V.sl (1 : Nat) false [Eng.V.c (Value.int IntKind.u8 98), Eng.V.c (Value.int IntKind.u8 99)]]) (fun r2 =>
 xsha_Words r0 (fun r3 =>
 xsha_Hex r0 (fun r4 =>
 (lt (ByteArray.toList r4 == ByteArray.toList (ByteArray.mk #[(97 : UInt8), (57 : UInt8), (57 : UInt8), (57 : UInt8), (51 : UInt8), (101 : UInt8), (51 : UInt8), (54 : UInt8), (52 : UInt8), (55 : UInt8), (48 : UInt8), (54 : UInt8), (56 : UInt8), (49 : UInt8), (54 : UInt8), (97 : UInt8), (98 : UInt8), (97 : UInt8), (51 : UInt8), (101 : UInt8), (50 : UInt8), (53 : UInt8), (55 : UInt8), (49 : UInt8), (55 : UInt8), (56 : UInt8), (53 : UInt8), (48 : UInt8), (99 : UInt8), (50 : UInt8), (54 : UInt8), (99 : UInt8), (57 : UInt8), (99 : UInt8), (100 : UInt8), (48 : UInt8), (100 : UInt8), (56 : UInt8), (57 : UInt8), (100 : UInt8)])) fun v5 =>
 (if v5 then
 xsha_Hex r1 (fun r6 =>
 (lt (ByteArray.toList r6 == ByteArray.toList (ByteArray.mk #[(100 : UInt8), (97 : UInt8), (51 : UInt8), (57 : UInt8), (97 : UInt8), (51 : UInt8), (101 : UInt8), (101 : UInt8), (53 : UInt8), (101 : UInt8), (54 : UInt8), (98 : UInt8), (52 : UInt8), (98 : UInt8), (48 : UInt8), (100 : UInt8), (51 : UInt8), (50 : UInt8), (53 : UInt8), (53 : UInt8), (98 : UInt8), (102 : UInt8), (101 : UInt8), (102 : UInt8), (57 : UInt8), (53 : UInt8), (54 : UInt8), (48 : UInt8), (49 : UInt8), (56 : UInt8), (57 : UInt8), (48 : UInt8), (97 : UInt8), (102 : UInt8), (100 : UInt8), (56 : UInt8), (48 : UInt8), (55 : UInt8), (48 : UInt8), (57 : UInt8)])) fun v7 =>
 (if v7 then
 (lt (r0.1 == r2.1 && (r0.2.1 == r2.2.1 && (r0.2.2.1 == r2.2.2.1 && (r0.2.2.2.1 == r2.2.2.2.1 && (r0.2.2.2.2.1 == r2.2.2.2.2.1 && (r0.2.2.2.2.2.1 == r2.2.2.2.2.2.1 && (r0.2.2.2.2.2.2.1 == r2.2.2.2.2.2.2.1 && (r0.2.2.2.2.2.2.2.1 == r2.2.2.2.2.2.2.2.1 && (r0.2.2.2.2.2.2.2.2.1 == r2.2.2.2.2.2.2.2.2.1 && (r0.2.2.2.2.2.2.2.2.2.1 == r2.2.2.2.2.2.2.2.2.2.1 && (r0.2.2.2.2.2.2.2.2.2.2.1 == r2.2.2.2.2.2.2.2.2.2.2.1 && (r0.2.2.2.2.2.2.2.2.2.2.2.1 == r2.2.2.2.2.2.2.2.2.2.2.2.1 && (r0.2.2.2.2.2.2.2.2.2.2.2.2.1 == r2.2.2.2.2.2.2.2.2.2.2.2.2.1 && (r0.2.2.2.2.2.2.2.2.2.2.2.2.2.1 == r2.2.2.2.2.2.2.2.2.2.2.2.2.2.1 && (r0.2.2.2.2.2.2.2.2.2.2.2.2.2.2.1 == r2.2.2.2.2.2.2.2.2.2.2.2.2.2.2.1 && (r0.2.2.2.2.2.2.2.2.2.2.2.2.2.2.2.1 == r2.2.2.2.2.2.2.2.2.2.2.2.2.2.2.2.1 && (r0.2.2.2.2.2.2.2.2.2.2.2.2.2.2.2.2.1 == r2.2.2.2.2.2.2.2.2.2.2.2.2.2.2.2.2.1 && (r0.2.2.2.2.2.2.2.2.2.2.2.2.2.2.2.2.2.1 == r2.2.2.2.2.2.2.2.2.2.2.2.2.2.2.2.2.2.1 && (r0.2.2.2.2.2.2.2.2.2.2.2.2.2.2.2.2.2.2.1 == r2.2.2.2.2.2.2.2.2.2.2.2.2.2.2.2.2.2.2.1 && (r0.2.2.2.2.2.2.2.2.2.2.2.2.2.2.2.2.2.2.2.1 == r2.2.2.2.2.2.2.2.2.2.2.2.2.2.2.2.2.2.2.2.1 && true)))))))))))))))))))) fun v8 =>
 (if v8 then
 (if (r3.1 == 2845392438) then
 K (r3.2.2.2.2.1 == 2630932637)
 else
 K false)
 else
 K false))
 else
 K false)))
 else
 K false)))))))
def Xepactlaw06_small : Tepactlaw06_small := Yepactlaw06_small Xsha_Sum Xsha_Words Xsha_Hex
def Jepactlaw06_small (X : Tepactlaw06_small) : Inst := mkI 7 .nil .nil pL43 .nil X
def Iepactlaw06_small : Inst := Jepactlaw06_small Xepactlaw06_small
theorem Eepactlaw06_small (xsha_Sum : Tsha_Sum) (xsha_Words : Tsha_Words) (xsha_Hex : Tsha_Hex) : EqF Try.prog 41 gives Try.f7 [Jsha_Sum xsha_Sum, Jsha_Words xsha_Words, Jsha_Hex xsha_Hex] [] (Jepactlaw06_small (Yepactlaw06_small xsha_Sum xsha_Words xsha_Hex)) := fun x y K => by kernel_rfl
theorem Iepactlaw06_small_ok : InstOk Try.prog G.1 Iepactlaw06_small := iok (gives := gives) [] (okCons Isha_Sum_ok (okCons Isha_Words_ok (okCons Isha_Hex_ok okNil))) 41 follows Try.func7 (by kernel_rfl) (fun x => by kernel_rfl) (Eepactlaw06_small Xsha_Sum Xsha_Words Xsha_Hex)

/- epact/epactlaw06.ShaWords -/
abbrev Tepactlaw06_ShaWords : Type := Q24 → (Bool → Prop) → Prop
def Lepactlaw06_ShaWords_0 (K : Bool → Prop) : (Q44 → Prop) → Q44 → Prop := fun k4 x5 =>
 (if decide (x5.1.2.2.2.2.2.2.1 < 20) then
 (if 0 ≤ w64 (Int.tdiv x5.1.2.2.2.2.2.2.1 4) ∧ w64 (Int.tdiv x5.1.2.2.2.2.2.2.1 4) < 5 then
 (Eng.asInt IntKind.u32 (Eng.getC x5.2.2.1 (0 : Nat) ((0 : Nat) + Int.toNat (w64 (Int.tdiv x5.1.2.2.2.2.2.2.1 4)) * (1 : Nat))) False fun n6 =>
 (lt (w64 (24 - w64 (8 * Int.tmod x5.1.2.2.2.2.2.2.1 4))) fun v7 =>
 (if v7 < 0 then
 False
 else
 (if 0 ≤ x5.1.2.2.2.2.2.2.1 ∧ x5.1.2.2.2.2.2.2.1 < 20 then
 (if (0 : Nat) < List.length x5.2.2.2.1 then
 (if (0 : Nat) + Int.toNat x5.1.2.2.2.2.2.2.1 * (1 : Nat) + List.length [Eng.V.c (Value.int IntKind.u8 (wu8 (Int.fdiv n6 (2 ^ Min.min (Int.toNat v7) (32 : Nat)))))] ≤ (20 : Nat) then
 (lt (List.set x5.2.2.2.1 (0 : Nat) (Eng.setE (List.getD x5.2.2.2.1 (0 : Nat) Eng.V.bad) ((0 : Nat) + Int.toNat x5.1.2.2.2.2.2.2.1 * (1 : Nat)) [Eng.V.c (Value.int IntKind.u8 (wu8 (Int.fdiv n6 (2 ^ Min.min (Int.toNat v7) (32 : Nat)))))])) fun v8 =>
 k4 (((), x5.1.2.1, x5.1.2.2.1, (), x5.1.2.2.2.2.1, (), w64 (x5.1.2.2.2.2.2.2.1 + 1), ()), x5.2.1, x5.2.2.1, v8, ()))
 else
 False)
 else
 False)
 else
 False))))
 else
 False)
 else
 (if x5.1.2.2.1 then
 (Eng.asInt IntKind.u8 (Eng.getC x5.2.2.2.1 (0 : Nat) (0 : Nat)) False fun n9 =>
 (Eng.asInt IntKind.u8 (Eng.getC x5.2.2.2.1 (0 : Nat) (1 : Nat)) False fun n10 =>
 (Eng.asInt IntKind.u8 (Eng.getC x5.2.2.2.1 (0 : Nat) (2 : Nat)) False fun n11 =>
 (Eng.asInt IntKind.u8 (Eng.getC x5.2.2.2.1 (0 : Nat) (3 : Nat)) False fun n12 =>
 (Eng.asInt IntKind.u8 (Eng.getC x5.2.2.2.1 (0 : Nat) (4 : Nat)) False fun n13 =>
 (Eng.asInt IntKind.u8 (Eng.getC x5.2.2.2.1 (0 : Nat) (5 : Nat)) False fun n14 =>
 (Eng.asInt IntKind.u8 (Eng.getC x5.2.2.2.1 (0 : Nat) (6 : Nat)) False fun n15 =>
 (Eng.asInt IntKind.u8 (Eng.getC x5.2.2.2.1 (0 : Nat) (7 : Nat)) False fun n16 =>
 (Eng.asInt IntKind.u8 (Eng.getC x5.2.2.2.1 (0 : Nat) (8 : Nat)) False fun n17 =>
 (Eng.asInt IntKind.u8 (Eng.getC x5.2.2.2.1 (0 : Nat) (9 : Nat)) False fun n18 =>
 (Eng.asInt IntKind.u8 (Eng.getC x5.2.2.2.1 (0 : Nat) (10 : Nat)) False fun n19 =>
 (Eng.asInt IntKind.u8 (Eng.getC x5.2.2.2.1 (0 : Nat) (11 : Nat)) False fun n20 =>
 (Eng.asInt IntKind.u8 (Eng.getC x5.2.2.2.1 (0 : Nat) (12 : Nat)) False fun n21 =>
 (Eng.asInt IntKind.u8 (Eng.getC x5.2.2.2.1 (0 : Nat) (13 : Nat)) False fun n22 =>
 (Eng.asInt IntKind.u8 (Eng.getC x5.2.2.2.1 (0 : Nat) (14 : Nat)) False fun n23 =>
 (Eng.asInt IntKind.u8 (Eng.getC x5.2.2.2.1 (0 : Nat) (15 : Nat)) False fun n24 =>
 (Eng.asInt IntKind.u8 (Eng.getC x5.2.2.2.1 (0 : Nat) (16 : Nat)) False fun n25 =>
 (Eng.asInt IntKind.u8 (Eng.getC x5.2.2.2.1 (0 : Nat) (17 : Nat)) False fun n26 =>
 (Eng.asInt IntKind.u8 (Eng.getC x5.2.2.2.1 (0 : Nat) (18 : Nat)) False fun n27 =>
 (Eng.asInt IntKind.u8 (Eng.getC x5.2.2.2.1 (0 : Nat) (19 : Nat)) False fun n28 =>
 (lt (n9 == x5.2.1.1 && (n10 == x5.2.1.2.1 && (n11 == x5.2.1.2.2.1 && (n12 == x5.2.1.2.2.2.1 && (n13 == x5.2.1.2.2.2.2.1 && (n14 == x5.2.1.2.2.2.2.2.1 && (n15 == x5.2.1.2.2.2.2.2.2.1 && (n16 == x5.2.1.2.2.2.2.2.2.2.1 && (n17 == x5.2.1.2.2.2.2.2.2.2.2.1 && (n18 == x5.2.1.2.2.2.2.2.2.2.2.2.1 && (n19 == x5.2.1.2.2.2.2.2.2.2.2.2.2.1 && (n20 == x5.2.1.2.2.2.2.2.2.2.2.2.2.2.1 && (n21 == x5.2.1.2.2.2.2.2.2.2.2.2.2.2.2.1 && (n22 == x5.2.1.2.2.2.2.2.2.2.2.2.2.2.2.2.1 && (n23 == x5.2.1.2.2.2.2.2.2.2.2.2.2.2.2.2.2.1 && (n24 == x5.2.1.2.2.2.2.2.2.2.2.2.2.2.2.2.2.2.1 && (n25 == x5.2.1.2.2.2.2.2.2.2.2.2.2.2.2.2.2.2.2.1 && (n26 == x5.2.1.2.2.2.2.2.2.2.2.2.2.2.2.2.2.2.2.2.1 && (n27 == x5.2.1.2.2.2.2.2.2.2.2.2.2.2.2.2.2.2.2.2.2.1 && (n28 == x5.2.1.2.2.2.2.2.2.2.2.2.2.2.2.2.2.2.2.2.2.2.1 && true)))))))))))))))))))) fun v29 =>
 (if v29 then
 (if ((↑(ByteArray.size x5.1.2.2.2.2.1) : Int) == 40) then
 (if (0 :Int) ≤ 0 ∧ 0 < (↑(ByteArray.size x5.1.2.2.2.2.1) : Int) then
 K (decide (x5.2.1.1 > 15) == (Eng.bAt x5.1.2.2.2.2.1 (0 : Nat) != 48))
 else
 False)
 else
 K false)
 else
 K false))))))))))))))))))))))
 else
 K false))
def Lepactlaw06_ShaWords_0p : Lp := ⟨254, [.trim 254], pT45, pH46, 0⟩
def Yepactlaw06_ShaWords (xepactlaw06_small : Tepactlaw06_small) (xsha_Words : Tsha_Words) (xsha_Hex : Tsha_Hex) (a0 : Q24) (K : Bool → Prop) : Prop :=
 xepactlaw06_small (fun r1 =>
 xsha_Words a0 (fun r2 =>
 xsha_Hex a0 (fun r3 =>
 lp (Lepactlaw06_ShaWords_0 K) (((), false, r1, (), r3, (), 0, ()), a0, [Eng.V.agg [Eng.V.c (Value.int IntKind.u32 r2.1), Eng.V.c (Value.int IntKind.u32 r2.2.1), Eng.V.c (Value.int IntKind.u32 r2.2.2.1), Eng.V.c (Value.int IntKind.u32 r2.2.2.2.1), Eng.V.c (Value.int IntKind.u32 r2.2.2.2.2.1)]], [Eng.V.agg [Eng.V.c (Value.int IntKind.u8 0), Eng.V.c (Value.int IntKind.u8 0), Eng.V.c (Value.int IntKind.u8 0), Eng.V.c (Value.int IntKind.u8 0), Eng.V.c (Value.int IntKind.u8 0), Eng.V.c (Value.int IntKind.u8 0), Eng.V.c (Value.int IntKind.u8 0), Eng.V.c (Value.int IntKind.u8 0), Eng.V.c (Value.int IntKind.u8 0), Eng.V.c (Value.int IntKind.u8 0), Eng.V.c (Value.int IntKind.u8 0), Eng.V.c (Value.int IntKind.u8 0), Eng.V.c (Value.int IntKind.u8 0), Eng.V.c (Value.int IntKind.u8 0), Eng.V.c (Value.int IntKind.u8 0), Eng.V.c (Value.int IntKind.u8 0), Eng.V.c (Value.int IntKind.u8 0), Eng.V.c (Value.int IntKind.u8 0), Eng.V.c (Value.int IntKind.u8 0), Eng.V.c (Value.int IntKind.u8 0)]], ()))))
def Xepactlaw06_ShaWords : Tepactlaw06_ShaWords := Yepactlaw06_ShaWords Xepactlaw06_small Xsha_Words Xsha_Hex
def Jepactlaw06_ShaWords (X : Tepactlaw06_ShaWords) : Inst := mkI 6 pL33 .nil pL43 .nil X
def Iepactlaw06_ShaWords : Inst := Jepactlaw06_ShaWords Xepactlaw06_ShaWords
theorem Eepactlaw06_ShaWords (xepactlaw06_small : Tepactlaw06_small) (xsha_Words : Tsha_Words) (xsha_Hex : Tsha_Hex) : EqF Try.prog 49 gives Try.f6 [Jepactlaw06_small xepactlaw06_small, Jsha_Words xsha_Words, Jsha_Hex xsha_Hex] [Lepactlaw06_ShaWords_0p] (Jepactlaw06_ShaWords (Yepactlaw06_ShaWords xepactlaw06_small xsha_Words xsha_Hex)) := fun x y K => by kernel_rfl
theorem Iepactlaw06_ShaWords_ok : InstOk Try.prog G.1 Iepactlaw06_ShaWords := iok (gives := gives) [Lepactlaw06_ShaWords_0p] (okCons Iepactlaw06_small_ok (okCons Isha_Words_ok (okCons Isha_Hex_ok okNil))) 49 follows Try.func6 (by kernel_rfl) (fun x => by kernel_rfl) (Eepactlaw06_ShaWords Xepactlaw06_small Xsha_Words Xsha_Hex)

/- epact/epactlaw06.ShaHex -/
abbrev Tepactlaw06_ShaHex : Type := Q24 → Q24 → (Bool → Prop) → Prop
def Lepactlaw06_ShaHex_0 (xsha_Hex : Tsha_Hex) (xsha_Words : Tsha_Words) (K : Bool → Prop) : (Q47 → Prop) → Q47 → Prop := fun k4 x5 =>
 (if decide (x5.1.2.2.2.2.2.1 < (↑(ByteArray.size x5.1.2.2.2.2.1) : Int)) then
 (if 0 ≤ x5.1.2.2.2.2.2.1 ∧ x5.1.2.2.2.2.2.1 < (↑(ByteArray.size x5.1.2.2.2.2.1) : Int) then
 (if decide (Eng.bAt x5.1.2.2.2.2.1 (Int.toNat x5.1.2.2.2.2.2.1) < 48) then
 (if 0 ≤ x5.1.2.2.2.2.2.1 ∧ x5.1.2.2.2.2.2.1 < (↑(ByteArray.size x5.1.2.2.2.2.1) : Int) then
 (if decide (Eng.bAt x5.1.2.2.2.2.1 (Int.toNat x5.1.2.2.2.2.2.1) < 97) then
 K false
 else
 (if 0 ≤ x5.1.2.2.2.2.2.1 ∧ x5.1.2.2.2.2.2.1 < (↑(ByteArray.size x5.1.2.2.2.2.1) : Int) then
 (if decide (Eng.bAt x5.1.2.2.2.2.1 (Int.toNat x5.1.2.2.2.2.2.1) > 102) then
 K false
 else
 k4 (((), (), x5.1.2.2.1, x5.1.2.2.2.1, x5.1.2.2.2.2.1, w64 (x5.1.2.2.2.2.2.1 + 1), ()), x5.2))
 else
 False))
 else
 False)
 else
 (if 0 ≤ x5.1.2.2.2.2.2.1 ∧ x5.1.2.2.2.2.2.1 < (↑(ByteArray.size x5.1.2.2.2.2.1) : Int) then
 (if decide (Eng.bAt x5.1.2.2.2.2.1 (Int.toNat x5.1.2.2.2.2.2.1) > 57) then
 (if 0 ≤ x5.1.2.2.2.2.2.1 ∧ x5.1.2.2.2.2.2.1 < (↑(ByteArray.size x5.1.2.2.2.2.1) : Int) then
 (if decide (Eng.bAt x5.1.2.2.2.2.1 (Int.toNat x5.1.2.2.2.2.2.1) < 97) then
 K false
 else
 (if 0 ≤ x5.1.2.2.2.2.2.1 ∧ x5.1.2.2.2.2.2.1 < (↑(ByteArray.size x5.1.2.2.2.2.1) : Int) then
 (if decide (Eng.bAt x5.1.2.2.2.2.1 (Int.toNat x5.1.2.2.2.2.2.1) > 102) then
 K false
 else
 k4 (((), (), x5.1.2.2.1, x5.1.2.2.2.1, x5.1.2.2.2.2.1, w64 (x5.1.2.2.2.2.2.1 + 1), ()), x5.2))
 else
 False))
 else
 False)
 else
 k4 (((), (), x5.1.2.2.1, x5.1.2.2.2.1, x5.1.2.2.2.2.1, w64 (x5.1.2.2.2.2.2.1 + 1), ()), x5.2))
 else
 False))
 else
 False)
 else
 (lt (x5.2.1.1 == x5.2.2.1.1 && (x5.2.1.2.1 == x5.2.2.1.2.1 && (x5.2.1.2.2.1 == x5.2.2.1.2.2.1 && (x5.2.1.2.2.2.1 == x5.2.2.1.2.2.2.1 && (x5.2.1.2.2.2.2.1 == x5.2.2.1.2.2.2.2.1 && (x5.2.1.2.2.2.2.2.1 == x5.2.2.1.2.2.2.2.2.1 && (x5.2.1.2.2.2.2.2.2.1 == x5.2.2.1.2.2.2.2.2.2.1 && (x5.2.1.2.2.2.2.2.2.2.1 == x5.2.2.1.2.2.2.2.2.2.2.1 && (x5.2.1.2.2.2.2.2.2.2.2.1 == x5.2.2.1.2.2.2.2.2.2.2.2.1 && (x5.2.1.2.2.2.2.2.2.2.2.2.1 == x5.2.2.1.2.2.2.2.2.2.2.2.2.1 && (x5.2.1.2.2.2.2.2.2.2.2.2.2.1 == x5.2.2.1.2.2.2.2.2.2.2.2.2.2.1 && (x5.2.1.2.2.2.2.2.2.2.2.2.2.2.1 == x5.2.2.1.2.2.2.2.2.2.2.2.2.2.2.1 && (x5.2.1.2.2.2.2.2.2.2.2.2.2.2.2.1 == x5.2.2.1.2.2.2.2.2.2.2.2.2.2.2.2.1 && (x5.2.1.2.2.2.2.2.2.2.2.2.2.2.2.2.1 == x5.2.2.1.2.2.2.2.2.2.2.2.2.2.2.2.2.1 && (x5.2.1.2.2.2.2.2.2.2.2.2.2.2.2.2.2.1 == x5.2.2.1.2.2.2.2.2.2.2.2.2.2.2.2.2.2.1 && (x5.2.1.2.2.2.2.2.2.2.2.2.2.2.2.2.2.2.1 == x5.2.2.1.2.2.2.2.2.2.2.2.2.2.2.2.2.2.2.1 && (x5.2.1.2.2.2.2.2.2.2.2.2.2.2.2.2.2.2.2.1 == x5.2.2.1.2.2.2.2.2.2.2.2.2.2.2.2.2.2.2.2.1 && (x5.2.1.2.2.2.2.2.2.2.2.2.2.2.2.2.2.2.2.2.1 == x5.2.2.1.2.2.2.2.2.2.2.2.2.2.2.2.2.2.2.2.2.1 && (x5.2.1.2.2.2.2.2.2.2.2.2.2.2.2.2.2.2.2.2.2.1 == x5.2.2.1.2.2.2.2.2.2.2.2.2.2.2.2.2.2.2.2.2.2.1 && (x5.2.1.2.2.2.2.2.2.2.2.2.2.2.2.2.2.2.2.2.2.2.1 == x5.2.2.1.2.2.2.2.2.2.2.2.2.2.2.2.2.2.2.2.2.2.2.1 && true)))))))))))))))))))) fun v6 =>
 (if x5.1.2.2.2.1 then
 xsha_Hex x5.2.2.1 (fun r7 =>
 (if ((ByteArray.toList r7 == ByteArray.toList x5.1.2.2.2.2.1) == v6) then
 xsha_Words x5.2.2.1 (fun r8 =>
 xsha_Words x5.2.1 (fun r9 =>
 (lt (r8.1 == r9.1 && (r8.2.1 == r9.2.1 && (r8.2.2.1 == r9.2.2.1 && (r8.2.2.2.1 == r9.2.2.2.1 && (r8.2.2.2.2.1 == r9.2.2.2.2.1 && true))))) fun v10 =>
 K (v10 == v6))))
 else
 K false))
 else
 K false)))
def Lepactlaw06_ShaHex_0p : Lp := ⟨252, [.trim 252], pT48, pH49, 0⟩
def Yepactlaw06_ShaHex (xepactlaw06_small : Tepactlaw06_small) (xsha_Hex : Tsha_Hex) (xsha_Words : Tsha_Words) (a0 : Q24) (a1 : Q24) (K : Bool → Prop) : Prop :=
 xepactlaw06_small (fun r2 =>
 xsha_Hex a0 (fun r3 =>
 (if ((↑(ByteArray.size r3) : Int) != 40) then
 K false
 else
 lp (Lepactlaw06_ShaHex_0 xsha_Hex xsha_Words K) (((), (), false, r2, r3, 0, ()), a0, a1, ()))))
def Xepactlaw06_ShaHex : Tepactlaw06_ShaHex := Yepactlaw06_ShaHex Xepactlaw06_small Xsha_Hex Xsha_Words
def Jepactlaw06_ShaHex (X : Tepactlaw06_ShaHex) : Inst := mkI 5 pL50 .nil pL43 .nil X
def Iepactlaw06_ShaHex : Inst := Jepactlaw06_ShaHex Xepactlaw06_ShaHex
theorem Eepactlaw06_ShaHex (xepactlaw06_small : Tepactlaw06_small) (xsha_Hex : Tsha_Hex) (xsha_Words : Tsha_Words) : EqF Try.prog 64 gives Try.f5 [Jepactlaw06_small xepactlaw06_small, Jsha_Hex xsha_Hex, Jsha_Words xsha_Words] [Lepactlaw06_ShaHex_0p] (Jepactlaw06_ShaHex (Yepactlaw06_ShaHex xepactlaw06_small xsha_Hex xsha_Words)) := fun x y K => by kernel_rfl
theorem Iepactlaw06_ShaHex_ok : InstOk Try.prog G.1 Iepactlaw06_ShaHex := iok (gives := gives) [Lepactlaw06_ShaHex_0p] (okCons Iepactlaw06_small_ok (okCons Isha_Hex_ok (okCons Isha_Words_ok okNil))) 64 follows Try.func5 (by kernel_rfl) (fun x => by kernel_rfl) (Eepactlaw06_ShaHex Xepactlaw06_small Xsha_Hex Xsha_Words)

/- epact/epactref06.padded -/
abbrev Tepactref06_padded : Type := (List Eng.V) → ((List Eng.V) → Bool → Bool → Prop) → Prop
def Lepactref06_padded_1 (K : (List Eng.V) → Bool → Bool → Prop) (k1 : Q51 → Prop) : (Q52 → Prop) → Q52 → Prop := fun k3 x4 =>
 (if decide (x4.1.2.2.2.1 < 8) then
 (lt (w64 (56 - w64 (8 * x4.1.2.2.2.1))) fun v5 =>
 (if v5 < 0 then
 False
 else
 (if Eng.roomOk (List.length x4.2.1 + List.length [Eng.V.c (Value.int IntKind.u8 (wu8 (Int.fdiv x4.1.2.2.1 (2 ^ Min.min (Int.toNat v5) (64 : Nat)))))]) (1 : Nat) then
 k3 (((), (), x4.1.2.2.1, w64 (x4.1.2.2.2.1 + 1), ()), x4.2.1 ++ [Eng.V.c (Value.int IntKind.u8 (wu8 (Int.fdiv x4.1.2.2.1 (2 ^ Min.min (Int.toNat v5) (64 : Nat)))))], ())
 else
 False)))
 else
 K x4.2.1 true false)
def Lepactref06_padded_1p : Lp := ⟨60, [.trim 60], pT53, pH54, 0⟩
def Lepactref06_padded_0 (K : (List Eng.V) → Bool → Bool → Prop) : (Q51 → Prop) → Q51 → Prop := fun k1 x2 =>
 (if (Int.tmod (↑(List.length x2.2.1) : Int) (64 :Int) != 56) then
 (if Eng.roomOk (List.length x2.2.1 + (1 : Nat)) (1 : Nat) then
 k1 ((x2.1.1, (), (), ()), x2.2.1 ++ [Eng.V.c (Value.int IntKind.u8 0)], ())
 else
 False)
 else
 lp (Lepactref06_padded_1 K k1) (((), (), wu64 (wu64 (↑(List.length x2.1.1) : Int) * 8), 0, ()), x2.2))
def Lepactref06_padded_0p : Lp := ⟨13, [.trim 13], pT55, pH54, 0⟩
def Yepactref06_padded (a0 : (List Eng.V)) (K : (List Eng.V) → Bool → Bool → Prop) : Prop :=
 (if Eng.roomOk ((0 : Nat) + List.length a0) (1 : Nat) then
 (if Eng.roomOk (List.length ([] ++ a0) + (1 : Nat)) (1 : Nat) then
 lp (Lepactref06_padded_0 K) ((a0, (), (), ()), [] ++ a0 ++ [Eng.V.c (Value.int IntKind.u8 128)], ())
 else
 False)
 else
 False)
def Xepactref06_padded : Tepactref06_padded := Yepactref06_padded
def Jepactref06_padded (X : Tepactref06_padded) : Inst := mkI 16 pL8 .nil pL1 pH2 X
def Iepactref06_padded : Inst := Jepactref06_padded Xepactref06_padded
theorem Eepactref06_padded : EqF Try.prog 36 gives Try.f16 [] [Lepactref06_padded_0p, Lepactref06_padded_1p] (Jepactref06_padded (Yepactref06_padded)) := fun x y K => by kernel_rfl
theorem Iepactref06_padded_ok : InstOk Try.prog G.1 Iepactref06_padded := iok (gives := gives) [Lepactref06_padded_0p, Lepactref06_padded_1p] okNil 36 follows Try.func16 (by kernel_rfl) (fun x => by kernel_rfl) (Eepactref06_padded)

/- epact/epactref06.turn -/
abbrev Tepactref06_turn : Type := Int → Int → (Int → Prop) → Prop
def Yepactref06_turn (a0 : Int) (a1 : Int) (K : Int → Prop) : Prop :=
 (if a1 < 0 then
 False
 else
 (if w64 (32 - a1) < 0 then
 False
 else
 (lt (wu32 (↑(BitVec.toNat (BitVec.ofInt (32 : Nat) (wu32 (a0 * 2 ^ Min.min (Int.toNat a1) (32 : Nat))) ||| BitVec.ofInt (32 : Nat) (Int.fdiv a0 (2 ^ Min.min (Int.toNat (w64 (32 - a1))) (32 : Nat))))) : Int)) fun v2 =>
 K v2)))
def Xepactref06_turn : Tepactref06_turn := Yepactref06_turn
def Jepactref06_turn (X : Tepactref06_turn) : Inst := mkI 21 pL9 .nil pL10 .nil X
def Iepactref06_turn : Inst := Jepactref06_turn Xepactref06_turn
theorem Eepactref06_turn : EqF Try.prog 13 gives Try.f21 [] [] (Jepactref06_turn (Yepactref06_turn)) := fun x y K => by kernel_rfl
theorem Iepactref06_turn_ok : InstOk Try.prog G.1 Iepactref06_turn := iok (gives := gives) [] okNil 13 follows Try.func21 (by kernel_rfl) (fun x => by kernel_rfl) (Eepactref06_turn)

/- epact/epactref06.mix -/
abbrev Tepactref06_mix : Type := Int → Int → Int → Int → (Int → Prop) → Prop
def Yepactref06_mix (a0 : Int) (a1 : Int) (a2 : Int) (a3 : Int) (K : Int → Prop) : Prop :=
 (if decide (a0 < 20) then
 (lt (wu32 (↑(BitVec.toNat (BitVec.ofInt (32 : Nat) (wu32 (↑(BitVec.toNat (BitVec.ofInt (32 : Nat) 4294967295 ^^^ BitVec.ofInt (32 : Nat) a1)) : Int)) &&& BitVec.ofInt (32 : Nat) a3)) : Int)) fun v4 =>
 (lt (wu32 (↑(BitVec.toNat (BitVec.ofInt (32 : Nat) (wu32 (↑(BitVec.toNat (BitVec.ofInt (32 : Nat) a1 &&& BitVec.ofInt (32 : Nat) a2)) : Int)) ^^^ BitVec.ofInt (32 : Nat) v4)) : Int)) fun v5 =>
 K (wu32 (v5 + 1518500249))))
 else
 (if decide (a0 < 40) then
 (lt (wu32 (↑(BitVec.toNat (BitVec.ofInt (32 : Nat) (wu32 (↑(BitVec.toNat (BitVec.ofInt (32 : Nat) a1 ^^^ BitVec.ofInt (32 : Nat) a2)) : Int)) ^^^ BitVec.ofInt (32 : Nat) a3)) : Int)) fun v6 =>
 K (wu32 (v6 + 1859775393)))
 else
 (if decide (a0 < 60) then
 (lt (wu32 (↑(BitVec.toNat (BitVec.ofInt (32 : Nat) (wu32 (↑(BitVec.toNat (BitVec.ofInt (32 : Nat) a1 &&& BitVec.ofInt (32 : Nat) a2)) : Int)) ^^^ BitVec.ofInt (32 : Nat) (wu32 (↑(BitVec.toNat (BitVec.ofInt (32 : Nat) a1 &&& BitVec.ofInt (32 : Nat) a3)) : Int)))) : Int)) fun v7 =>
 (lt (wu32 (↑(BitVec.toNat (BitVec.ofInt (32 : Nat) v7 ^^^ BitVec.ofInt (32 : Nat) (wu32 (↑(BitVec.toNat (BitVec.ofInt (32 : Nat) a2 &&& BitVec.ofInt (32 : Nat) a3)) : Int)))) : Int)) fun v8 =>
 K (wu32 (v8 + 2400959708))))
 else
 (lt (wu32 (↑(BitVec.toNat (BitVec.ofInt (32 : Nat) (wu32 (↑(BitVec.toNat (BitVec.ofInt (32 : Nat) a1 ^^^ BitVec.ofInt (32 : Nat) a2)) : Int)) ^^^ BitVec.ofInt (32 : Nat) a3)) : Int)) fun v9 =>
 K (wu32 (v9 + 3395469782))))))
def Xepactref06_mix : Tepactref06_mix := Yepactref06_mix
def Jepactref06_mix (X : Tepactref06_mix) : Inst := mkI 22 pL56 .nil pL10 .nil X
def Iepactref06_mix : Inst := Jepactref06_mix Xepactref06_mix
theorem Eepactref06_mix : EqF Try.prog 48 gives Try.f22 [] [] (Jepactref06_mix (Yepactref06_mix)) := fun x y K => by kernel_rfl
theorem Iepactref06_mix_ok : InstOk Try.prog G.1 Iepactref06_mix := iok (gives := gives) [] okNil 48 follows Try.func22 (by kernel_rfl) (fun x => by kernel_rfl) (Eepactref06_mix)

/- epact/epactref06.block -/
abbrev Tepactref06_block : Type := Q34 → (List Eng.V) → (Q34 → Prop) → Prop
def Lepactref06_block_3 (K : Q34 → Prop) (k2 : Q57 → Prop) (k14 : Q58 → Prop) (k22 : Q59 → Prop) : (Q58 → Prop) → Q58 → Prop := fun k39 x40 =>
 (if decide (x40.1.2.2.2.1 < 5) then
 (if 0 ≤ x40.1.2.2.2.1 ∧ x40.1.2.2.2.1 < 5 then
 (Eng.asInt IntKind.u32 (Eng.getC x40.2.2.2.1 (0 : Nat) ((0 : Nat) + Int.toNat x40.1.2.2.2.1 * (1 : Nat))) False fun n41 =>
 (if 0 ≤ x40.1.2.2.2.1 ∧ x40.1.2.2.2.1 < 5 then
 (Eng.asInt IntKind.u32 ([Eng.V.c (Value.int IntKind.u32 x40.2.1.1), Eng.V.c (Value.int IntKind.u32 x40.2.1.2.1), Eng.V.c (Value.int IntKind.u32 x40.2.1.2.2.1), Eng.V.c (Value.int IntKind.u32 x40.2.1.2.2.2.1), Eng.V.c (Value.int IntKind.u32 x40.2.1.2.2.2.2.1)][(0 : Nat) + Int.toNat x40.1.2.2.2.1 * (1 : Nat)]?) False fun n42 =>
 (if 0 ≤ x40.1.2.2.2.1 ∧ x40.1.2.2.2.1 < 5 then
 (if (0 : Nat) < List.length x40.2.2.2.1 then
 (if (0 : Nat) + Int.toNat x40.1.2.2.2.1 * (1 : Nat) + List.length [Eng.V.c (Value.int IntKind.u32 (wu32 (n41 + n42)))] ≤ (5 : Nat) then
 (lt (List.set x40.2.2.2.1 (0 : Nat) (Eng.setE (List.getD x40.2.2.2.1 (0 : Nat) Eng.V.bad) ((0 : Nat) + Int.toNat x40.1.2.2.2.1 * (1 : Nat)) [Eng.V.c (Value.int IntKind.u32 (wu32 (n41 + n42)))])) fun v43 =>
 k39 (((), (), (), w64 (x40.1.2.2.2.1 + 1), ()), x40.2.1, x40.2.2.1, v43, ()))
 else
 False)
 else
 False)
 else
 False))
 else
 False))
 else
 False)
 else
 (Eng.asInt IntKind.u32 (Eng.getC x40.2.2.2.1 (0 : Nat) (0 : Nat)) False fun n44 =>
 (Eng.asInt IntKind.u32 (Eng.getC x40.2.2.2.1 (0 : Nat) (1 : Nat)) False fun n45 =>
 (Eng.asInt IntKind.u32 (Eng.getC x40.2.2.2.1 (0 : Nat) (2 : Nat)) False fun n46 =>
 (Eng.asInt IntKind.u32 (Eng.getC x40.2.2.2.1 (0 : Nat) (3 : Nat)) False fun n47 =>
 (Eng.asInt IntKind.u32 (Eng.getC x40.2.2.2.1 (0 : Nat) (4 : Nat)) False fun n48 =>
 (if (0 : Nat) < List.length x40.2.2.1 then
 (lt (List.set x40.2.2.1 (0 : Nat) (Eng.setE (List.getD x40.2.2.1 (0 : Nat) Eng.V.bad) (0 : Nat) [Eng.V.c (Value.int IntKind.u32 n44), Eng.V.c (Value.int IntKind.u32 n45), Eng.V.c (Value.int IntKind.u32 n46), Eng.V.c (Value.int IntKind.u32 n47), Eng.V.c (Value.int IntKind.u32 n48)])) fun v49 =>
 (Eng.asInt IntKind.u32 (Eng.getC v49 (0 : Nat) (0 : Nat)) False fun n50 =>
 (Eng.asInt IntKind.u32 (Eng.getC v49 (0 : Nat) (1 : Nat)) False fun n51 =>
 (Eng.asInt IntKind.u32 (Eng.getC v49 (0 : Nat) (2 : Nat)) False fun n52 =>
 (Eng.asInt IntKind.u32 (Eng.getC v49 (0 : Nat) (3 : Nat)) False fun n53 =>
 (Eng.asInt IntKind.u32 (Eng.getC v49 (0 : Nat) (4 : Nat)) False fun n54 =>
 K (n50, n51, n52, n53, n54, ())))))))
 else
 False)))))))
def Lepactref06_block_3p : Lp := ⟨2324, [.trim 2324], pT60, pH61, 0⟩
def Lepactref06_block_2 (xepactref06_turn : Tepactref06_turn) (xepactref06_mix : Tepactref06_mix) (K : Q34 → Prop) (k2 : Q57 → Prop) (k14 : Q58 → Prop) : (Q59 → Prop) → Q59 → Prop := fun k22 x23 =>
 (if decide (x23.1.2.2.2.2.1 < 80) then
 (Eng.asInt IntKind.u32 (Eng.getC x23.2.2.2.1 (0 : Nat) (0 : Nat)) False fun n24 =>
 (Eng.asInt IntKind.u32 (Eng.getC x23.2.2.2.1 (0 : Nat) (1 : Nat)) False fun n25 =>
 (Eng.asInt IntKind.u32 (Eng.getC x23.2.2.2.1 (0 : Nat) (2 : Nat)) False fun n26 =>
 (Eng.asInt IntKind.u32 (Eng.getC x23.2.2.2.1 (0 : Nat) (3 : Nat)) False fun n27 =>
 (Eng.asInt IntKind.u32 (Eng.getC x23.2.2.2.1 (0 : Nat) (4 : Nat)) False fun n28 =>
 (if 0 ≤ x23.1.2.2.2.2.1 ∧ x23.1.2.2.2.2.1 < (↑(List.length x23.2.2.2.2.1) : Int) then
 (Eng.asInt IntKind.u32 (Eng.getC x23.2.2.2.2.1 (Int.toNat x23.1.2.2.2.2.1) (0 : Nat)) False fun n29 =>
 xepactref06_turn n24 5 (fun r30 =>
 xepactref06_mix x23.1.2.2.2.2.1 n25 n26 n27 (fun r31 =>
 (lt (wu32 (wu32 (r30 + r31) + n28)) fun v32 =>
 (Eng.asInt IntKind.u32 (Eng.getC x23.2.2.2.1 (0 : Nat) (0 : Nat)) False fun n33 =>
 (Eng.asInt IntKind.u32 (Eng.getC x23.2.2.2.1 (0 : Nat) (1 : Nat)) False fun n34 =>
 (Eng.asInt IntKind.u32 (Eng.getC x23.2.2.2.1 (0 : Nat) (2 : Nat)) False fun n35 =>
 (Eng.asInt IntKind.u32 (Eng.getC x23.2.2.2.1 (0 : Nat) (3 : Nat)) False fun n36 =>
 xepactref06_turn n34 30 (fun r37 =>
 (if (0 : Nat) < List.length x23.2.2.2.1 then
 (lt (List.set x23.2.2.2.1 (0 : Nat) (Eng.setE (List.getD x23.2.2.2.1 (0 : Nat) Eng.V.bad) (0 : Nat) [Eng.V.c (Value.int IntKind.u32 (wu32 (v32 + n29))), Eng.V.c (Value.int IntKind.u32 n33), Eng.V.c (Value.int IntKind.u32 r37), Eng.V.c (Value.int IntKind.u32 n35), Eng.V.c (Value.int IntKind.u32 n36)])) fun v38 =>
 k22 (((), (), (), (), w64 (x23.1.2.2.2.2.1 + 1), ()), x23.2.1, x23.2.2.1, v38, x23.2.2.2.2))
 else
 False))))))))))
 else
 False))))))
 else
 lp (Lepactref06_block_3 K k2 k14 k22) (((), (), (), 0, ()), x23.2.1, x23.2.2.1, x23.2.2.2.1, ()))
def Lepactref06_block_2p : Lp := ⟨820, [.trim 820], pT62, pH63, 0⟩
def Lepactref06_block_1 (xepactref06_turn : Tepactref06_turn) (xepactref06_mix : Tepactref06_mix) (K : Q34 → Prop) (k2 : Q57 → Prop) : (Q58 → Prop) → Q58 → Prop := fun k14 x15 =>
 (if decide (x15.1.2.2.2.1 < 80) then
 (if 0 ≤ w64 (x15.1.2.2.2.1 - 3) ∧ w64 (x15.1.2.2.2.1 - 3) < (↑(List.length x15.2.2.2.1) : Int) then
 (Eng.asInt IntKind.u32 (Eng.getC x15.2.2.2.1 (Int.toNat (w64 (x15.1.2.2.2.1 - 3))) (0 : Nat)) False fun n16 =>
 (if 0 ≤ w64 (x15.1.2.2.2.1 - 8) ∧ w64 (x15.1.2.2.2.1 - 8) < (↑(List.length x15.2.2.2.1) : Int) then
 (Eng.asInt IntKind.u32 (Eng.getC x15.2.2.2.1 (Int.toNat (w64 (x15.1.2.2.2.1 - 8))) (0 : Nat)) False fun n17 =>
 (if 0 ≤ w64 (x15.1.2.2.2.1 - 14) ∧ w64 (x15.1.2.2.2.1 - 14) < (↑(List.length x15.2.2.2.1) : Int) then
 (Eng.asInt IntKind.u32 (Eng.getC x15.2.2.2.1 (Int.toNat (w64 (x15.1.2.2.2.1 - 14))) (0 : Nat)) False fun n18 =>
 (lt (wu32 (↑(BitVec.toNat (BitVec.ofInt (32 : Nat) (wu32 (↑(BitVec.toNat (BitVec.ofInt (32 : Nat) n16 ^^^ BitVec.ofInt (32 : Nat) n17)) : Int)) ^^^ BitVec.ofInt (32 : Nat) n18)) : Int)) fun v19 =>
 (if 0 ≤ w64 (x15.1.2.2.2.1 - 16) ∧ w64 (x15.1.2.2.2.1 - 16) < (↑(List.length x15.2.2.2.1) : Int) then
 (Eng.asInt IntKind.u32 (Eng.getC x15.2.2.2.1 (Int.toNat (w64 (x15.1.2.2.2.1 - 16))) (0 : Nat)) False fun n20 =>
 xepactref06_turn (wu32 (↑(BitVec.toNat (BitVec.ofInt (32 : Nat) v19 ^^^ BitVec.ofInt (32 : Nat) n20)) : Int)) 1 (fun r21 =>
 (if Eng.roomOk (List.length x15.2.2.2.1 + List.length [Eng.V.c (Value.int IntKind.u32 r21)]) (4 : Nat) then
 k14 (((), (), (), w64 (x15.1.2.2.2.1 + 1), ()), x15.2.1, x15.2.2.1, x15.2.2.2.1 ++ [Eng.V.c (Value.int IntKind.u32 r21)], ())
 else
 False)))
 else
 False)))
 else
 False))
 else
 False))
 else
 False)
 else
 lp (Lepactref06_block_2 xepactref06_turn xepactref06_mix K k2 k14) (((), (), (), (), 0, ()), x15.2.1, x15.2.2.1, [Eng.V.agg [Eng.V.c (Value.int IntKind.u32 x15.2.1.1), Eng.V.c (Value.int IntKind.u32 x15.2.1.2.1), Eng.V.c (Value.int IntKind.u32 x15.2.1.2.2.1), Eng.V.c (Value.int IntKind.u32 x15.2.1.2.2.2.1), Eng.V.c (Value.int IntKind.u32 x15.2.1.2.2.2.2.1)]], x15.2.2.2))
def Lepactref06_block_1p : Lp := ⟨180, [.trim 180], pT64, pH65, 0⟩
def Lepactref06_block_0 (xepactref06_turn : Tepactref06_turn) (xepactref06_mix : Tepactref06_mix) (K : Q34 → Prop) : (Q57 → Prop) → Q57 → Prop := fun k2 x3 =>
 (if decide (x3.1.2.2.2.2.1 < 16) then
 (if 0 ≤ w64 (4 * x3.1.2.2.2.2.1) ∧ w64 (4 * x3.1.2.2.2.2.1) < (↑(List.length x3.1.1) : Int) then
 (Eng.asInt IntKind.u8 (Eng.getC x3.1.1 (Int.toNat (w64 (4 * x3.1.2.2.2.2.1))) (0 : Nat)) False fun n4 =>
 (lt (w64 (w64 (4 * x3.1.2.2.2.2.1) + 1)) fun v5 =>
 (if 0 ≤ v5 ∧ v5 < (↑(List.length x3.1.1) : Int) then
 (Eng.asInt IntKind.u8 (Eng.getC x3.1.1 (Int.toNat v5) (0 : Nat)) False fun n6 =>
 (lt (wu32 (↑(BitVec.toNat (BitVec.ofInt (32 : Nat) (wu32 (wu32 n4 * 16777216)) ||| BitVec.ofInt (32 : Nat) (wu32 (wu32 n6 * 65536)))) : Int)) fun v7 =>
 (lt (w64 (w64 (4 * x3.1.2.2.2.2.1) + 2)) fun v8 =>
 (if 0 ≤ v8 ∧ v8 < (↑(List.length x3.1.1) : Int) then
 (Eng.asInt IntKind.u8 (Eng.getC x3.1.1 (Int.toNat v8) (0 : Nat)) False fun n9 =>
 (lt (wu32 (↑(BitVec.toNat (BitVec.ofInt (32 : Nat) v7 ||| BitVec.ofInt (32 : Nat) (wu32 (wu32 n9 * 256)))) : Int)) fun v10 =>
 (lt (w64 (w64 (4 * x3.1.2.2.2.2.1) + 3)) fun v11 =>
 (if 0 ≤ v11 ∧ v11 < (↑(List.length x3.1.1) : Int) then
 (Eng.asInt IntKind.u8 (Eng.getC x3.1.1 (Int.toNat v11) (0 : Nat)) False fun n12 =>
 (if Eng.roomOk (List.length x3.2.2.2.1 + List.length [Eng.V.c (Value.int IntKind.u32 (wu32 (↑(BitVec.toNat (BitVec.ofInt (32 : Nat) v10 ||| BitVec.ofInt (32 : Nat) (wu32 n12))) : Int)))]) (4 : Nat) then
 (lt (x3.2.2.2.1 ++ [Eng.V.c (Value.int IntKind.u32 (wu32 (↑(BitVec.toNat (BitVec.ofInt (32 : Nat) v10 ||| BitVec.ofInt (32 : Nat) (wu32 n12))) : Int)))]) fun v13 =>
 k2 ((x3.1.1, (), (), (), w64 (x3.1.2.2.2.2.1 + 1), ()), x3.2.1, x3.2.2.1, v13, ()))
 else
 False))
 else
 False))))
 else
 False))))
 else
 False)))
 else
 False)
 else
 lp (Lepactref06_block_1 xepactref06_turn xepactref06_mix K k2) (((), (), (), 16, ()), x3.2))
def Lepactref06_block_0p : Lp := ⟨118, [.trim 118, .fat 5 1 2192, .trim 118], pT66, pH65, 0⟩
def Yepactref06_block (xepactref06_turn : Tepactref06_turn) (xepactref06_mix : Tepactref06_mix) (a0 : Q34) (a1 : (List Eng.V)) (K : Q34 → Prop) : Prop :=
 lp (Lepactref06_block_0 xepactref06_turn xepactref06_mix K) ((a1, (), (), (), 0, ()), a0, [Eng.V.agg [Eng.V.c (Value.int IntKind.u32 0), Eng.V.c (Value.int IntKind.u32 0), Eng.V.c (Value.int IntKind.u32 0), Eng.V.c (Value.int IntKind.u32 0), Eng.V.c (Value.int IntKind.u32 0)]], [], ())
def Xepactref06_block : Tepactref06_block := Yepactref06_block Xepactref06_turn Xepactref06_mix
def Jepactref06_block (X : Tepactref06_block) : Inst := mkI 17 pL67 .nil pL38 .nil X
def Iepactref06_block : Inst := Jepactref06_block Xepactref06_block
theorem Eepactref06_block (xepactref06_turn : Tepactref06_turn) (xepactref06_mix : Tepactref06_mix) : EqF Try.prog 133 gives Try.f17 [Jepactref06_turn xepactref06_turn, Jepactref06_mix xepactref06_mix] [Lepactref06_block_0p, Lepactref06_block_1p, Lepactref06_block_2p, Lepactref06_block_3p] (Jepactref06_block (Yepactref06_block xepactref06_turn xepactref06_mix)) := fun x y K => by kernel_rfl
theorem Iepactref06_block_ok : InstOk Try.prog G.1 Iepactref06_block := iok (gives := gives) [Lepactref06_block_0p, Lepactref06_block_1p, Lepactref06_block_2p, Lepactref06_block_3p] (okCons Iepactref06_turn_ok (okCons Iepactref06_mix_ok okNil)) 133 follows Try.func17 (by kernel_rfl) (fun x => by kernel_rfl) (Eepactref06_block Xepactref06_turn Xepactref06_mix)

/- epact/epactref06.Sum -/
abbrev Tepactref06_Sum : Type := (List Eng.V) → (Q24 → Prop) → Prop
def Lepactref06_Sum_1 (K : Q24 → Prop) (k4 : Q68 → Prop) : (Q69 → Prop) → Q69 → Prop := fun k13 x14 =>
 (if decide (x14.1.2.2.2.1 < 20) then
 (if 0 ≤ w64 (Int.tdiv x14.1.2.2.2.1 4) ∧ w64 (Int.tdiv x14.1.2.2.2.1 4) < 5 then
 (Eng.asInt IntKind.u32 (Eng.getC x14.2.2.1 (0 : Nat) ((0 : Nat) + Int.toNat (w64 (Int.tdiv x14.1.2.2.2.1 4)) * (1 : Nat))) False fun n15 =>
 (lt (w64 (24 - w64 (8 * Int.tmod x14.1.2.2.2.1 4))) fun v16 =>
 (if v16 < 0 then
 False
 else
 (if 0 ≤ x14.1.2.2.2.1 ∧ x14.1.2.2.2.1 < 20 then
 (if (0 : Nat) < List.length x14.2.2.2.1 then
 (if (0 : Nat) + Int.toNat x14.1.2.2.2.1 * (1 : Nat) + List.length [Eng.V.c (Value.int IntKind.u8 (wu8 (Int.fdiv n15 (2 ^ Min.min (Int.toNat v16) (32 : Nat)))))] ≤ (20 : Nat) then
 (lt (List.set x14.2.2.2.1 (0 : Nat) (Eng.setE (List.getD x14.2.2.2.1 (0 : Nat) Eng.V.bad) ((0 : Nat) + Int.toNat x14.1.2.2.2.1 * (1 : Nat)) [Eng.V.c (Value.int IntKind.u8 (wu8 (Int.fdiv n15 (2 ^ Min.min (Int.toNat v16) (32 : Nat)))))])) fun v17 =>
 k13 (((), (), (), w64 (x14.1.2.2.2.1 + 1), ()), x14.2.1, x14.2.2.1, v17, ()))
 else
 False)
 else
 False)
 else
 False))))
 else
 False)
 else
 (Eng.asInt IntKind.u8 (Eng.getC x14.2.2.2.1 (0 : Nat) (0 : Nat)) False fun n18 =>
 (Eng.asInt IntKind.u8 (Eng.getC x14.2.2.2.1 (0 : Nat) (1 : Nat)) False fun n19 =>
 (Eng.asInt IntKind.u8 (Eng.getC x14.2.2.2.1 (0 : Nat) (2 : Nat)) False fun n20 =>
 (Eng.asInt IntKind.u8 (Eng.getC x14.2.2.2.1 (0 : Nat) (3 : Nat)) False fun n21 =>
 (Eng.asInt IntKind.u8 (Eng.getC x14.2.2.2.1 (0 : Nat) (4 : Nat)) False fun n22 =>
 (Eng.asInt IntKind.u8 (Eng.getC x14.2.2.2.1 (0 : Nat) (5 : Nat)) False fun n23 =>
 (Eng.asInt IntKind.u8 (Eng.getC x14.2.2.2.1 (0 : Nat) (6 : Nat)) False fun n24 =>
 (Eng.asInt IntKind.u8 (Eng.getC x14.2.2.2.1 (0 : Nat) (7 : Nat)) False fun n25 =>
 (Eng.asInt IntKind.u8 (Eng.getC x14.2.2.2.1 (0 : Nat) (8 : Nat)) False fun n26 =>
 (Eng.asInt IntKind.u8 (Eng.getC x14.2.2.2.1 (0 : Nat) (9 : Nat)) False fun n27 =>
 (Eng.asInt IntKind.u8 (Eng.getC x14.2.2.2.1 (0 : Nat) (10 : Nat)) False fun n28 =>
 (Eng.asInt IntKind.u8 (Eng.getC x14.2.2.2.1 (0 : Nat) (11 : Nat)) False fun n29 =>
 (Eng.asInt IntKind.u8 (Eng.getC x14.2.2.2.1 (0 : Nat) (12 : Nat)) False fun n30 =>
 (Eng.asInt IntKind.u8 (Eng.getC x14.2.2.2.1 (0 : Nat) (13 : Nat)) False fun n31 =>
 (Eng.asInt IntKind.u8 (Eng.getC x14.2.2.2.1 (0 : Nat) (14 : Nat)) False fun n32 =>
 (Eng.asInt IntKind.u8 (Eng.getC x14.2.2.2.1 (0 : Nat) (15 : Nat)) False fun n33 =>
 (Eng.asInt IntKind.u8 (Eng.getC x14.2.2.2.1 (0 : Nat) (16 : Nat)) False fun n34 =>
 (Eng.asInt IntKind.u8 (Eng.getC x14.2.2.2.1 (0 : Nat) (17 : Nat)) False fun n35 =>
 (Eng.asInt IntKind.u8 (Eng.getC x14.2.2.2.1 (0 : Nat) (18 : Nat)) False fun n36 =>
 (Eng.asInt IntKind.u8 (Eng.getC x14.2.2.2.1 (0 : Nat) (19 : Nat)) False fun n37 =>
 (if (0 : Nat) < List.length x14.2.1 then
 (lt (List.set x14.2.1 (0 : Nat) (Eng.setE (List.getD x14.2.1 (0 : Nat) Eng.V.bad) (0 : Nat) [Eng.V.c (Value.int IntKind.u8 n18), Eng.V.c (Value.int IntKind.u8 n19), Eng.V.c (Value.int IntKind.u8 n20), Eng.V.c (Value.int IntKind.u8 n21), Eng.V.c (Value.int IntKind.u8 n22), Eng.V.c (Value.int IntKind.u8 n23), Eng.V.c (Value.int IntKind.u8 n24), Eng.V.c (Value.int IntKind.u8 n25), Eng.V.c (Value.int IntKind.u8 n26), Eng.V.c (Value.int IntKind.u8 n27), Eng.V.c (Value.int IntKind.u8 n28), Eng.V.c (Value.int IntKind.u8 n29), Eng.V.c (Value.int IntKind.u8 n30), Eng.V.c (Value.int IntKind.u8 n31), Eng.V.c (Value.int IntKind.u8 n32), Eng.V.c (Value.int IntKind.u8 n33), Eng.V.c (Value.int IntKind.u8 n34), Eng.V.c (Value.int IntKind.u8 n35), Eng.V.c (Value.int IntKind.u8 n36), Eng.V.c (Value.int IntKind.u8 n37)])) fun v38 =>
 (Eng.asInt IntKind.u8 (Eng.getC v38 (0 : Nat) (0 : Nat)) False fun n39 =>
 (Eng.asInt IntKind.u8 (Eng.getC v38 (0 : Nat) (1 : Nat)) False fun n40 =>
 (Eng.asInt IntKind.u8 (Eng.getC v38 (0 : Nat) (2 : Nat)) False fun n41 =>
 (Eng.asInt IntKind.u8 (Eng.getC v38 (0 : Nat) (3 : Nat)) False fun n42 =>
 (Eng.asInt IntKind.u8 (Eng.getC v38 (0 : Nat) (4 : Nat)) False fun n43 =>
 (Eng.asInt IntKind.u8 (Eng.getC v38 (0 : Nat) (5 : Nat)) False fun n44 =>
 (Eng.asInt IntKind.u8 (Eng.getC v38 (0 : Nat) (6 : Nat)) False fun n45 =>
 (Eng.asInt IntKind.u8 (Eng.getC v38 (0 : Nat) (7 : Nat)) False fun n46 =>
 (Eng.asInt IntKind.u8 (Eng.getC v38 (0 : Nat) (8 : Nat)) False fun n47 =>
 (Eng.asInt IntKind.u8 (Eng.getC v38 (0 : Nat) (9 : Nat)) False fun n48 =>
 (Eng.asInt IntKind.u8 (Eng.getC v38 (0 : Nat) (10 : Nat)) False fun n49 =>
 (Eng.asInt IntKind.u8 (Eng.getC v38 (0 : Nat) (11 : Nat)) False fun n50 =>
 (Eng.asInt IntKind.u8 (Eng.getC v38 (0 : Nat) (12 : Nat)) False fun n51 =>
 (Eng.asInt IntKind.u8 (Eng.getC v38 (0 : Nat) (13 : Nat)) False fun n52 =>
 (Eng.asInt IntKind.u8 (Eng.getC v38 (0 : Nat) (14 : Nat)) False fun n53 =>
 (Eng.asInt IntKind.u8 (Eng.getC v38 (0 : Nat) (15 : Nat)) False fun n54 =>
 (Eng.asInt IntKind.u8 (Eng.getC v38 (0 : Nat) (16 : Nat)) False fun n55 =>
 (Eng.asInt IntKind.u8 (Eng.getC v38 (0 : Nat) (17 : Nat)) False fun n56 =>
 (Eng.asInt IntKind.u8 (Eng.getC v38 (0 : Nat) (18 : Nat)) False fun n57 =>
 (Eng.asInt IntKind.u8 (Eng.getC v38 (0 : Nat) (19 : Nat)) False fun n58 =>
 K (n39, n40, n41, n42, n43, n44, n45, n46, n47, n48, n49, n50, n51, n52, n53, n54, n55, n56, n57, n58, ()))))))))))))))))))))))
 else
 False))))))))))))))))))))))
def Lepactref06_Sum_1p : Lp := ⟨204, [.trim 204], pT70, pH71, 0⟩
def Lepactref06_Sum_0 (xepactref06_block : Tepactref06_block) (K : Q24 → Prop) : (Q68 → Prop) → Q68 → Prop := fun k4 x5 =>
 (if decide (x5.1.2.2.2.1 < (↑(List.length x5.2.2.2.1.1) : Int)) then
 (Eng.asInt IntKind.u32 (Eng.getC x5.2.2.1 (0 : Nat) (0 : Nat)) False fun n6 =>
 (Eng.asInt IntKind.u32 (Eng.getC x5.2.2.1 (0 : Nat) (1 : Nat)) False fun n7 =>
 (Eng.asInt IntKind.u32 (Eng.getC x5.2.2.1 (0 : Nat) (2 : Nat)) False fun n8 =>
 (Eng.asInt IntKind.u32 (Eng.getC x5.2.2.1 (0 : Nat) (3 : Nat)) False fun n9 =>
 (Eng.asInt IntKind.u32 (Eng.getC x5.2.2.1 (0 : Nat) (4 : Nat)) False fun n10 =>
 (if 0 ≤ w64 (x5.1.2.2.2.1 + 64) ∧ w64 (x5.1.2.2.2.1 + 64) ≤ (↑(List.length x5.2.2.2.1.1) : Int) then
 (if 0 ≤ x5.1.2.2.2.1 ∧ x5.1.2.2.2.1 ≤ w64 (x5.1.2.2.2.1 + 64) then
 xepactref06_block (n6, n7, n8, n9, n10, ()) (Eng.cutL x5.2.2.2.1.1 (Int.toNat x5.1.2.2.2.1) (Int.toNat (w64 (x5.1.2.2.2.1 + 64)) - Int.toNat x5.1.2.2.2.1)) (fun r11 =>
 (if (0 : Nat) < List.length x5.2.2.1 then
 (lt (List.set x5.2.2.1 (0 : Nat) (Eng.setE (List.getD x5.2.2.1 (0 : Nat) Eng.V.bad) (0 : Nat) [Eng.V.c (Value.int IntKind.u32 r11.1), Eng.V.c (Value.int IntKind.u32 r11.2.1), Eng.V.c (Value.int IntKind.u32 r11.2.2.1), Eng.V.c (Value.int IntKind.u32 r11.2.2.2.1), Eng.V.c (Value.int IntKind.u32 r11.2.2.2.2.1)])) fun v12 =>
 k4 (((), (), (), w64 (x5.1.2.2.2.1 + 64), ()), x5.2.1, v12, x5.2.2.2))
 else
 False))
 else
 False)
 else
 False))))))
 else
 lp (Lepactref06_Sum_1 K k4) (((), (), (), 0, ()), x5.2.1, x5.2.2.1, [Eng.V.agg [Eng.V.c (Value.int IntKind.u8 0), Eng.V.c (Value.int IntKind.u8 0), Eng.V.c (Value.int IntKind.u8 0), Eng.V.c (Value.int IntKind.u8 0), Eng.V.c (Value.int IntKind.u8 0), Eng.V.c (Value.int IntKind.u8 0), Eng.V.c (Value.int IntKind.u8 0), Eng.V.c (Value.int IntKind.u8 0), Eng.V.c (Value.int IntKind.u8 0), Eng.V.c (Value.int IntKind.u8 0), Eng.V.c (Value.int IntKind.u8 0), Eng.V.c (Value.int IntKind.u8 0), Eng.V.c (Value.int IntKind.u8 0), Eng.V.c (Value.int IntKind.u8 0), Eng.V.c (Value.int IntKind.u8 0), Eng.V.c (Value.int IntKind.u8 0), Eng.V.c (Value.int IntKind.u8 0), Eng.V.c (Value.int IntKind.u8 0), Eng.V.c (Value.int IntKind.u8 0), Eng.V.c (Value.int IntKind.u8 0)]], ()))
def Lepactref06_Sum_0p : Lp := ⟨60, [.trim 60], pT72, pH73, 0⟩
def Yepactref06_Sum (xepactref06_padded : Tepactref06_padded) (xepactref06_block : Tepactref06_block) (a0 : (List Eng.V)) (K : Q24 → Prop) : Prop :=
 xepactref06_padded a0 (fun r1 r2 r3 =>
 lp (Lepactref06_Sum_0 xepactref06_block K) (((), (), (), 0, ()), [Eng.V.agg [Eng.V.c (Value.int IntKind.u8 0), Eng.V.c (Value.int IntKind.u8 0), Eng.V.c (Value.int IntKind.u8 0), Eng.V.c (Value.int IntKind.u8 0), Eng.V.c (Value.int IntKind.u8 0), Eng.V.c (Value.int IntKind.u8 0), Eng.V.c (Value.int IntKind.u8 0), Eng.V.c (Value.int IntKind.u8 0), Eng.V.c (Value.int IntKind.u8 0), Eng.V.c (Value.int IntKind.u8 0), Eng.V.c (Value.int IntKind.u8 0), Eng.V.c (Value.int IntKind.u8 0), Eng.V.c (Value.int IntKind.u8 0), Eng.V.c (Value.int IntKind.u8 0), Eng.V.c (Value.int IntKind.u8 0), Eng.V.c (Value.int IntKind.u8 0), Eng.V.c (Value.int IntKind.u8 0), Eng.V.c (Value.int IntKind.u8 0), Eng.V.c (Value.int IntKind.u8 0), Eng.V.c (Value.int IntKind.u8 0)]], [Eng.V.agg [Eng.V.c (Value.int IntKind.u32 1732584193), Eng.V.c (Value.int IntKind.u32 4023233417), Eng.V.c (Value.int IntKind.u32 2562383102), Eng.V.c (Value.int IntKind.u32 271733878), Eng.V.c (Value.int IntKind.u32 3285377520)]], (r1, r2, r3), ()))
def Xepactref06_Sum : Tepactref06_Sum := Yepactref06_Sum Xepactref06_padded Xepactref06_block
def Jepactref06_Sum (X : Tepactref06_Sum) : Inst := mkI 9 pL8 .nil pL33 .nil X
def Iepactref06_Sum : Inst := Jepactref06_Sum Xepactref06_Sum
theorem Eepactref06_Sum (xepactref06_padded : Tepactref06_padded) (xepactref06_block : Tepactref06_block) : EqF Try.prog 41 gives Try.f9 [Jepactref06_padded xepactref06_padded, Jepactref06_block xepactref06_block] [Lepactref06_Sum_0p, Lepactref06_Sum_1p] (Jepactref06_Sum (Yepactref06_Sum xepactref06_padded xepactref06_block)) := fun x y K => by kernel_rfl
theorem Iepactref06_Sum_ok : InstOk Try.prog G.1 Iepactref06_Sum := iok (gives := gives) [Lepactref06_Sum_0p, Lepactref06_Sum_1p] (okCons Iepactref06_padded_ok (okCons Iepactref06_block_ok okNil)) 41 follows Try.func9 (by kernel_rfl) (fun x => by kernel_rfl) (Eepactref06_Sum Xepactref06_padded Xepactref06_block)

/- epact/epactref06.Words -/
abbrev Tepactref06_Words : Type := Q24 → (Q34 → Prop) → Prop
def Lepactref06_Words_0 (K : Q34 → Prop) : (Q74 → Prop) → Q74 → Prop := fun k1 x2 =>
 (if decide (x2.1.2.2.2.1 < 20) then
 (if 0 ≤ w64 (Int.tdiv x2.1.2.2.2.1 4) ∧ w64 (Int.tdiv x2.1.2.2.2.1 4) < 5 then
 (Eng.asInt IntKind.u32 (Eng.getC x2.2.2.2.1 (0 : Nat) ((0 : Nat) + Int.toNat (w64 (Int.tdiv x2.1.2.2.2.1 4)) * (1 : Nat))) False fun n3 =>
 (if 0 ≤ x2.1.2.2.2.1 ∧ x2.1.2.2.2.1 < 20 then
 (Eng.asInt IntKind.u8 ([Eng.V.c (Value.int IntKind.u8 x2.2.1.1), Eng.V.c (Value.int IntKind.u8 x2.2.1.2.1), Eng.V.c (Value.int IntKind.u8 x2.2.1.2.2.1), Eng.V.c (Value.int IntKind.u8 x2.2.1.2.2.2.1), Eng.V.c (Value.int IntKind.u8 x2.2.1.2.2.2.2.1), Eng.V.c (Value.int IntKind.u8 x2.2.1.2.2.2.2.2.1), Eng.V.c (Value.int IntKind.u8 x2.2.1.2.2.2.2.2.2.1), Eng.V.c (Value.int IntKind.u8 x2.2.1.2.2.2.2.2.2.2.1), Eng.V.c (Value.int IntKind.u8 x2.2.1.2.2.2.2.2.2.2.2.1), Eng.V.c (Value.int IntKind.u8 x2.2.1.2.2.2.2.2.2.2.2.2.1), Eng.V.c (Value.int IntKind.u8 x2.2.1.2.2.2.2.2.2.2.2.2.2.1), Eng.V.c (Value.int IntKind.u8 x2.2.1.2.2.2.2.2.2.2.2.2.2.2.1), Eng.V.c (Value.int IntKind.u8 x2.2.1.2.2.2.2.2.2.2.2.2.2.2.2.1), Eng.V.c (Value.int IntKind.u8 x2.2.1.2.2.2.2.2.2.2.2.2.2.2.2.2.1), Eng.V.c (Value.int IntKind.u8 x2.2.1.2.2.2.2.2.2.2.2.2.2.2.2.2.2.1), Eng.V.c (Value.int IntKind.u8 x2.2.1.2.2.2.2.2.2.2.2.2.2.2.2.2.2.2.1), Eng.V.c (Value.int IntKind.u8 x2.2.1.2.2.2.2.2.2.2.2.2.2.2.2.2.2.2.2.1), Eng.V.c (Value.int IntKind.u8 x2.2.1.2.2.2.2.2.2.2.2.2.2.2.2.2.2.2.2.2.1), Eng.V.c (Value.int IntKind.u8 x2.2.1.2.2.2.2.2.2.2.2.2.2.2.2.2.2.2.2.2.2.1), Eng.V.c (Value.int IntKind.u8 x2.2.1.2.2.2.2.2.2.2.2.2.2.2.2.2.2.2.2.2.2.2.1)][(0 : Nat) + Int.toNat x2.1.2.2.2.1 * (1 : Nat)]?) False fun n4 =>
 (lt (wu32 (↑(BitVec.toNat (BitVec.ofInt (32 : Nat) (wu32 (n3 * 256)) ||| BitVec.ofInt (32 : Nat) (wu32 n4))) : Int)) fun v5 =>
 (if 0 ≤ w64 (Int.tdiv x2.1.2.2.2.1 4) ∧ w64 (Int.tdiv x2.1.2.2.2.1 4) < 5 then
 (if (0 : Nat) < List.length x2.2.2.2.1 then
 (if (0 : Nat) + Int.toNat (w64 (Int.tdiv x2.1.2.2.2.1 4)) * (1 : Nat) + List.length [Eng.V.c (Value.int IntKind.u32 v5)] ≤ (5 : Nat) then
 (lt (List.set x2.2.2.2.1 (0 : Nat) (Eng.setE (List.getD x2.2.2.2.1 (0 : Nat) Eng.V.bad) ((0 : Nat) + Int.toNat (w64 (Int.tdiv x2.1.2.2.2.1 4)) * (1 : Nat)) [Eng.V.c (Value.int IntKind.u32 v5)])) fun v6 =>
 k1 (((), (), (), w64 (x2.1.2.2.2.1 + 1), ()), x2.2.1, x2.2.2.1, v6, ()))
 else
 False)
 else
 False)
 else
 False)))
 else
 False))
 else
 False)
 else
 (Eng.asInt IntKind.u32 (Eng.getC x2.2.2.2.1 (0 : Nat) (0 : Nat)) False fun n7 =>
 (Eng.asInt IntKind.u32 (Eng.getC x2.2.2.2.1 (0 : Nat) (1 : Nat)) False fun n8 =>
 (Eng.asInt IntKind.u32 (Eng.getC x2.2.2.2.1 (0 : Nat) (2 : Nat)) False fun n9 =>
 (Eng.asInt IntKind.u32 (Eng.getC x2.2.2.2.1 (0 : Nat) (3 : Nat)) False fun n10 =>
 (Eng.asInt IntKind.u32 (Eng.getC x2.2.2.2.1 (0 : Nat) (4 : Nat)) False fun n11 =>
 (if (0 : Nat) < List.length x2.2.2.1 then
 (lt (List.set x2.2.2.1 (0 : Nat) (Eng.setE (List.getD x2.2.2.1 (0 : Nat) Eng.V.bad) (0 : Nat) [Eng.V.c (Value.int IntKind.u32 n7), Eng.V.c (Value.int IntKind.u32 n8), Eng.V.c (Value.int IntKind.u32 n9), Eng.V.c (Value.int IntKind.u32 n10), Eng.V.c (Value.int IntKind.u32 n11)])) fun v12 =>
 (Eng.asInt IntKind.u32 (Eng.getC v12 (0 : Nat) (0 : Nat)) False fun n13 =>
 (Eng.asInt IntKind.u32 (Eng.getC v12 (0 : Nat) (1 : Nat)) False fun n14 =>
 (Eng.asInt IntKind.u32 (Eng.getC v12 (0 : Nat) (2 : Nat)) False fun n15 =>
 (Eng.asInt IntKind.u32 (Eng.getC v12 (0 : Nat) (3 : Nat)) False fun n16 =>
 (Eng.asInt IntKind.u32 (Eng.getC v12 (0 : Nat) (4 : Nat)) False fun n17 =>
 K (n13, n14, n15, n16, n17, ())))))))
 else
 False)))))))
def Lepactref06_Words_0p : Lp := ⟨30, [.trim 30], pT75, pH76, 0⟩
def Yepactref06_Words (a0 : Q24) (K : Q34 → Prop) : Prop :=
 lp (Lepactref06_Words_0 K) (((), (), (), 0, ()), a0, [Eng.V.agg [Eng.V.c (Value.int IntKind.u32 0), Eng.V.c (Value.int IntKind.u32 0), Eng.V.c (Value.int IntKind.u32 0), Eng.V.c (Value.int IntKind.u32 0), Eng.V.c (Value.int IntKind.u32 0)]], [Eng.V.agg [Eng.V.c (Value.int IntKind.u32 0), Eng.V.c (Value.int IntKind.u32 0), Eng.V.c (Value.int IntKind.u32 0), Eng.V.c (Value.int IntKind.u32 0), Eng.V.c (Value.int IntKind.u32 0)]], ())
def Xepactref06_Words : Tepactref06_Words := Yepactref06_Words
def Jepactref06_Words (X : Tepactref06_Words) : Inst := mkI 11 pL33 .nil pL38 .nil X
def Iepactref06_Words : Inst := Jepactref06_Words Xepactref06_Words
theorem Eepactref06_Words : EqF Try.prog 23 gives Try.f11 [] [Lepactref06_Words_0p] (Jepactref06_Words (Yepactref06_Words)) := fun x y K => by kernel_rfl
theorem Iepactref06_Words_ok : InstOk Try.prog G.1 Iepactref06_Words := iok (gives := gives) [Lepactref06_Words_0p] okNil 23 follows Try.func11 (by kernel_rfl) (fun x => by kernel_rfl) (Eepactref06_Words)

/- epact/epactref06.Hex -/
abbrev Tepactref06_Hex : Type := Q24 → (ByteArray → Prop) → Prop
def Lepactref06_Hex_0 (K : ByteArray → Prop) : (Q77 → Prop) → Q77 → Prop := fun k1 x2 =>
 (if decide (x2.1.2.2.2.2.1 < 20) then
 (if 0 ≤ x2.1.2.2.2.2.1 ∧ x2.1.2.2.2.2.1 < 20 then
 (Eng.asInt IntKind.u8 ([Eng.V.c (Value.int IntKind.u8 x2.2.1.1), Eng.V.c (Value.int IntKind.u8 x2.2.1.2.1), Eng.V.c (Value.int IntKind.u8 x2.2.1.2.2.1), Eng.V.c (Value.int IntKind.u8 x2.2.1.2.2.2.1), Eng.V.c (Value.int IntKind.u8 x2.2.1.2.2.2.2.1), Eng.V.c (Value.int IntKind.u8 x2.2.1.2.2.2.2.2.1), Eng.V.c (Value.int IntKind.u8 x2.2.1.2.2.2.2.2.2.1), Eng.V.c (Value.int IntKind.u8 x2.2.1.2.2.2.2.2.2.2.1), Eng.V.c (Value.int IntKind.u8 x2.2.1.2.2.2.2.2.2.2.2.1), Eng.V.c (Value.int IntKind.u8 x2.2.1.2.2.2.2.2.2.2.2.2.1), Eng.V.c (Value.int IntKind.u8 x2.2.1.2.2.2.2.2.2.2.2.2.2.1), Eng.V.c (Value.int IntKind.u8 x2.2.1.2.2.2.2.2.2.2.2.2.2.2.1), Eng.V.c (Value.int IntKind.u8 x2.2.1.2.2.2.2.2.2.2.2.2.2.2.2.1), Eng.V.c (Value.int IntKind.u8 x2.2.1.2.2.2.2.2.2.2.2.2.2.2.2.2.1), Eng.V.c (Value.int IntKind.u8 x2.2.1.2.2.2.2.2.2.2.2.2.2.2.2.2.2.1), Eng.V.c (Value.int IntKind.u8 x2.2.1.2.2.2.2.2.2.2.2.2.2.2.2.2.2.2.1), Eng.V.c (Value.int IntKind.u8 x2.2.1.2.2.2.2.2.2.2.2.2.2.2.2.2.2.2.2.1), Eng.V.c (Value.int IntKind.u8 x2.2.1.2.2.2.2.2.2.2.2.2.2.2.2.2.2.2.2.2.1), Eng.V.c (Value.int IntKind.u8 x2.2.1.2.2.2.2.2.2.2.2.2.2.2.2.2.2.2.2.2.2.1), Eng.V.c (Value.int IntKind.u8 x2.2.1.2.2.2.2.2.2.2.2.2.2.2.2.2.2.2.2.2.2.2.1)][(0 : Nat) + Int.toNat x2.1.2.2.2.2.1 * (1 : Nat)]?) False fun n3 =>
 (if 0 ≤ x2.1.2.2.2.2.1 ∧ x2.1.2.2.2.2.1 < 20 then
 (Eng.asInt IntKind.u8 ([Eng.V.c (Value.int IntKind.u8 x2.2.1.1), Eng.V.c (Value.int IntKind.u8 x2.2.1.2.1), Eng.V.c (Value.int IntKind.u8 x2.2.1.2.2.1), Eng.V.c (Value.int IntKind.u8 x2.2.1.2.2.2.1), Eng.V.c (Value.int IntKind.u8 x2.2.1.2.2.2.2.1), Eng.V.c (Value.int IntKind.u8 x2.2.1.2.2.2.2.2.1), Eng.V.c (Value.int IntKind.u8 x2.2.1.2.2.2.2.2.2.1), Eng.V.c (Value.int IntKind.u8 x2.2.1.2.2.2.2.2.2.2.1), Eng.V.c (Value.int IntKind.u8 x2.2.1.2.2.2.2.2.2.2.2.1), Eng.V.c (Value.int IntKind.u8 x2.2.1.2.2.2.2.2.2.2.2.2.1), Eng.V.c (Value.int IntKind.u8 x2.2.1.2.2.2.2.2.2.2.2.2.2.1), Eng.V.c (Value.int IntKind.u8 x2.2.1.2.2.2.2.2.2.2.2.2.2.2.1), Eng.V.c (Value.int IntKind.u8 x2.2.1.2.2.2.2.2.2.2.2.2.2.2.2.1), Eng.V.c (Value.int IntKind.u8 x2.2.1.2.2.2.2.2.2.2.2.2.2.2.2.2.1), Eng.V.c (Value.int IntKind.u8 x2.2.1.2.2.2.2.2.2.2.2.2.2.2.2.2.2.1), Eng.V.c (Value.int IntKind.u8 x2.2.1.2.2.2.2.2.2.2.2.2.2.2.2.2.2.2.1), Eng.V.c (Value.int IntKind.u8 x2.2.1.2.2.2.2.2.2.2.2.2.2.2.2.2.2.2.2.1), Eng.V.c (Value.int IntKind.u8 x2.2.1.2.2.2.2.2.2.2.2.2.2.2.2.2.2.2.2.2.1), Eng.V.c (Value.int IntKind.u8 x2.2.1.2.2.2.2.2.2.2.2.2.2.2.2.2.2.2.2.2.2.1), Eng.V.c (Value.int IntKind.u8 x2.2.1.2.2.2.2.2.2.2.2.2.2.2.2.2.2.2.2.2.2.2.1)][(0 : Nat) + Int.toNat x2.1.2.2.2.2.1 * (1 : Nat)]?) False fun n4 =>
 (lt (wu8 (wu8 (Int.tdiv n4 16) + 1)) fun v5 =>
 (if 0 ≤ v5 ∧ v5 ≤ (↑(ByteArray.size x2.1.2.2.1) : Int) then
 (if 0 ≤ wu8 (Int.tdiv n3 16) ∧ wu8 (Int.tdiv n3 16) ≤ v5 then
 (lt (ByteArray.extract x2.1.2.2.1 (Int.toNat (wu8 (Int.tdiv n3 16))) (Int.toNat v5)) fun v6 =>
 (if (↑(ByteArray.size x2.1.2.2.2.1 + ByteArray.size v6) : Int) > 9223372036854775807 then
 False
 else
 (if 0 ≤ x2.1.2.2.2.2.1 ∧ x2.1.2.2.2.2.1 < 20 then
 (Eng.asInt IntKind.u8 ([Eng.V.c (Value.int IntKind.u8 x2.2.1.1), Eng.V.c (Value.int IntKind.u8 x2.2.1.2.1), Eng.V.c (Value.int IntKind.u8 x2.2.1.2.2.1), Eng.V.c (Value.int IntKind.u8 x2.2.1.2.2.2.1), Eng.V.c (Value.int IntKind.u8 x2.2.1.2.2.2.2.1), Eng.V.c (Value.int IntKind.u8 x2.2.1.2.2.2.2.2.1), Eng.V.c (Value.int IntKind.u8 x2.2.1.2.2.2.2.2.2.1), Eng.V.c (Value.int IntKind.u8 x2.2.1.2.2.2.2.2.2.2.1), Eng.V.c (Value.int IntKind.u8 x2.2.1.2.2.2.2.2.2.2.2.1), Eng.V.c (Value.int IntKind.u8 x2.2.1.2.2.2.2.2.2.2.2.2.1), Eng.V.c (Value.int IntKind.u8 x2.2.1.2.2.2.2.2.2.2.2.2.2.1), Eng.V.c (Value.int IntKind.u8 x2.2.1.2.2.2.2.2.2.2.2.2.2.2.1), Eng.V.c (Value.int IntKind.u8 x2.2.1.2.2.2.2.2.2.2.2.2.2.2.2.1), Eng.V.c (Value.int IntKind.u8 x2.2.1.2.2.2.2.2.2.2.2.2.2.2.2.2.1), Eng.V.c (Value.int IntKind.u8 x2.2.1.2.2.2.2.2.2.2.2.2.2.2.2.2.2.1), Eng.V.c (Value.int IntKind.u8 x2.2.1.2.2.2.2.2.2.2.2.2.2.2.2.2.2.2.1), Eng.V.c (Value.int IntKind.u8 x2.2.1.2.2.2.2.2.2.2.2.2.2.2.2.2.2.2.2.1), Eng.V.c (Value.int IntKind.u8 x2.2.1.2.2.2.2.2.2.2.2.2.2.2.2.2.2.2.2.2.1), Eng.V.c (Value.int IntKind.u8 x2.2.1.2.2.2.2.2.2.2.2.2.2.2.2.2.2.2.2.2.2.1), Eng.V.c (Value.int IntKind.u8 x2.2.1.2.2.2.2.2.2.2.2.2.2.2.2.2.2.2.2.2.2.2.1)][(0 : Nat) + Int.toNat x2.1.2.2.2.2.1 * (1 : Nat)]?) False fun n7 =>
 (if 0 ≤ x2.1.2.2.2.2.1 ∧ x2.1.2.2.2.2.1 < 20 then
 (Eng.asInt IntKind.u8 ([Eng.V.c (Value.int IntKind.u8 x2.2.1.1), Eng.V.c (Value.int IntKind.u8 x2.2.1.2.1), Eng.V.c (Value.int IntKind.u8 x2.2.1.2.2.1), Eng.V.c (Value.int IntKind.u8 x2.2.1.2.2.2.1), Eng.V.c (Value.int IntKind.u8 x2.2.1.2.2.2.2.1), Eng.V.c (Value.int IntKind.u8 x2.2.1.2.2.2.2.2.1), Eng.V.c (Value.int IntKind.u8 x2.2.1.2.2.2.2.2.2.1), Eng.V.c (Value.int IntKind.u8 x2.2.1.2.2.2.2.2.2.2.1), Eng.V.c (Value.int IntKind.u8 x2.2.1.2.2.2.2.2.2.2.2.1), Eng.V.c (Value.int IntKind.u8 x2.2.1.2.2.2.2.2.2.2.2.2.1), Eng.V.c (Value.int IntKind.u8 x2.2.1.2.2.2.2.2.2.2.2.2.2.1), Eng.V.c (Value.int IntKind.u8 x2.2.1.2.2.2.2.2.2.2.2.2.2.2.1), Eng.V.c (Value.int IntKind.u8 x2.2.1.2.2.2.2.2.2.2.2.2.2.2.2.1), Eng.V.c (Value.int IntKind.u8 x2.2.1.2.2.2.2.2.2.2.2.2.2.2.2.2.1), Eng.V.c (Value.int IntKind.u8 x2.2.1.2.2.2.2.2.2.2.2.2.2.2.2.2.2.1), Eng.V.c (Value.int IntKind.u8 x2.2.1.2.2.2.2.2.2.2.2.2.2.2.2.2.2.2.1), Eng.V.c (Value.int IntKind.u8 x2.2.1.2.2.2.2.2.2.2.2.2.2.2.2.2.2.2.2.1), Eng.V.c (Value.int IntKind.u8 x2.2.1.2.2.2.2.2.2.2.2.2.2.2.2.2.2.2.2.2.1), Eng.V.c (Value.int IntKind.u8 x2.2.1.2.2.2.2.2.2.2.2.2.2.2.2.2.2.2.2.2.2.1), Eng.V.c (Value.int IntKind.u8 x2.2.1.2.2.2.2.2.2.2.2.2.2.2.2.2.2.2.2.2.2.2.1)][(0 : Nat) + Int.toNat x2.1.2.2.2.2.1 * (1 : Nat)]?) False fun n8 =>
 (if 0 ≤ wu8 (Int.tmod n8 (16 :Int) + 1) ∧ wu8 (Int.tmod n8 (16 :Int) + 1) ≤ (↑(ByteArray.size x2.1.2.2.1) : Int) then
 (if 0 ≤ Int.tmod n7 16 ∧ Int.tmod n7 16 ≤ wu8 (Int.tmod n8 (16 :Int) + 1) then
 (lt (ByteArray.extract x2.1.2.2.1 (Int.toNat (Int.tmod n7 16)) (Int.toNat (wu8 (Int.tmod n8 (16 :Int) + 1)))) fun v9 =>
 (if (↑(ByteArray.size (x2.1.2.2.2.1 ++ v6) + ByteArray.size v9) : Int) > 9223372036854775807 then
 False
 else
 k1 (((), x2.1.2.1, x2.1.2.2.1, x2.1.2.2.2.1 ++ v6 ++ v9, w64 (x2.1.2.2.2.2.1 + 1), ()), x2.2)))
 else
 False)
 else
 False))
 else
 False))
 else
 False)))
 else
 False)
 else
 False)))
 else
 False))
 else
 False)
 else
 K x2.1.2.2.2.1)
def Lepactref06_Hex_0p : Lp := ⟨62, [.trim 62], pT78, pH79, 0⟩
def Yepactref06_Hex (a0 : Q24) (K : ByteArray → Prop) : Prop :=
 lp (Lepactref06_Hex_0 K) (((), ByteArray.mk #[], ByteArray.mk #[(48 : UInt8), (49 : UInt8), (50 : UInt8), (51 : UInt8), (52 : UInt8), (53 : UInt8), (54 : UInt8), (55 : UInt8), (56 : UInt8), (57 : UInt8), (97 : UInt8), (98 : UInt8), (99 : UInt8), (100 : UInt8), (101 : UInt8), (102 : UInt8)], ByteArray.mk #[], 0, ()), a0, ())
def Xepactref06_Hex : Tepactref06_Hex := Yepactref06_Hex
def Jepactref06_Hex (X : Tepactref06_Hex) : Inst := mkI 13 pL33 .nil pL42 .nil X
def Iepactref06_Hex : Inst := Jepactref06_Hex Xepactref06_Hex
theorem Eepactref06_Hex : EqF Try.prog 36 gives Try.f13 [] [Lepactref06_Hex_0p] (Jepactref06_Hex (Yepactref06_Hex)) := fun x y K => by kernel_rfl
theorem Iepactref06_Hex_ok : InstOk Try.prog G.1 Iepactref06_Hex := iok (gives := gives) [Lepactref06_Hex_0p] okNil 36 follows Try.func13 (by kernel_rfl) (fun x => by kernel_rfl) (Eepactref06_Hex)

/- epact/epactlaw06.ShaTells -/
abbrev Tepactlaw06_ShaTells : Type := (List Eng.V) → Q24 → (Bool → Prop) → Prop
def Yepactlaw06_ShaTells (xepactlaw06_small : Tepactlaw06_small) (xsha_Sum : Tsha_Sum) (xepactref06_Sum : Tepactref06_Sum) (xsha_Words : Tsha_Words) (xepactref06_Words : Tepactref06_Words) (xsha_Hex : Tsha_Hex) (xepactref06_Hex : Tepactref06_Hex) (a0 : (List Eng.V)) (a1 : Q24) (K : Bool → Prop) : Prop :=
 xepactlaw06_small (fun r2 =>
 (if decide ((↑(List.length a0) : Int) > 500) then
 K r2
 else
 (if r2 then
 xsha_Sum ([Eng.V.sl (1 : Nat) false a0]) (fun r3 =>
 xepactref06_Sum a0 (fun r4 =>
 (lt (r3.1 == r4.1 && (r3.2.1 == r4.2.1 && (r3.2.2.1 == r4.2.2.1 && (r3.2.2.2.1 == r4.2.2.2.1 && (r3.2.2.2.2.1 == r4.2.2.2.2.1 && (r3.2.2.2.2.2.1 == r4.2.2.2.2.2.1 && (r3.2.2.2.2.2.2.1 == r4.2.2.2.2.2.2.1 && (r3.2.2.2.2.2.2.2.1 == r4.2.2.2.2.2.2.2.1 && (r3.2.2.2.2.2.2.2.2.1 == r4.2.2.2.2.2.2.2.2.1 && (r3.2.2.2.2.2.2.2.2.2.1 == r4.2.2.2.2.2.2.2.2.2.1 && (r3.2.2.2.2.2.2.2.2.2.2.1 == r4.2.2.2.2.2.2.2.2.2.2.1 && (r3.2.2.2.2.2.2.2.2.2.2.2.1 == r4.2.2.2.2.2.2.2.2.2.2.2.1 && (r3.2.2.2.2.2.2.2.2.2.2.2.2.1 == r4.2.2.2.2.2.2.2.2.2.2.2.2.1 && (r3.2.2.2.2.2.2.2.2.2.2.2.2.2.1 == r4.2.2.2.2.2.2.2.2.2.2.2.2.2.1 && (r3.2.2.2.2.2.2.2.2.2.2.2.2.2.2.1 == r4.2.2.2.2.2.2.2.2.2.2.2.2.2.2.1 && (r3.2.2.2.2.2.2.2.2.2.2.2.2.2.2.2.1 == r4.2.2.2.2.2.2.2.2.2.2.2.2.2.2.2.1 && (r3.2.2.2.2.2.2.2.2.2.2.2.2.2.2.2.2.1 == r4.2.2.2.2.2.2.2.2.2.2.2.2.2.2.2.2.1 && (r3.2.2.2.2.2.2.2.2.2.2.2.2.2.2.2.2.2.1 == r4.2.2.2.2.2.2.2.2.2.2.2.2.2.2.2.2.2.1 && (r3.2.2.2.2.2.2.2.2.2.2.2.2.2.2.2.2.2.2.1 == r4.2.2.2.2.2.2.2.2.2.2.2.2.2.2.2.2.2.2.1 && (r3.2.2.2.2.2.2.2.2.2.2.2.2.2.2.2.2.2.2.2.1 == r4.2.2.2.2.2.2.2.2.2.2.2.2.2.2.2.2.2.2.2.1 && true)))))))))))))))))))) fun v5 =>
 (if v5 then
 xsha_Words a1 (fun r6 =>
 xepactref06_Words a1 (fun r7 =>
 (lt (r6.1 == r7.1 && (r6.2.1 == r7.2.1 && (r6.2.2.1 == r7.2.2.1 && (r6.2.2.2.1 == r7.2.2.2.1 && (r6.2.2.2.2.1 == r7.2.2.2.2.1 && true))))) fun v8 =>
 (if v8 then
 xsha_Hex a1 (fun r9 =>
 xepactref06_Hex a1 (fun r10 =>
 K (ByteArray.toList r9 == ByteArray.toList r10)))
 else
 K false))))
 else
 K false))))
 else
 K false)))
def Xepactlaw06_ShaTells : Tepactlaw06_ShaTells := Yepactlaw06_ShaTells Xepactlaw06_small Xsha_Sum Xepactref06_Sum Xsha_Words Xepactref06_Words Xsha_Hex Xepactref06_Hex
def Jepactlaw06_ShaTells (X : Tepactlaw06_ShaTells) : Inst := mkI 3 pL80 .nil pL43 .nil X
def Iepactlaw06_ShaTells : Inst := Jepactlaw06_ShaTells Xepactlaw06_ShaTells
theorem Eepactlaw06_ShaTells (xepactlaw06_small : Tepactlaw06_small) (xsha_Sum : Tsha_Sum) (xepactref06_Sum : Tepactref06_Sum) (xsha_Words : Tsha_Words) (xepactref06_Words : Tepactref06_Words) (xsha_Hex : Tsha_Hex) (xepactref06_Hex : Tepactref06_Hex) : EqF Try.prog 34 gives Try.f3 [Jepactlaw06_small xepactlaw06_small, Jsha_Sum xsha_Sum, Jepactref06_Sum xepactref06_Sum, Jsha_Words xsha_Words, Jepactref06_Words xepactref06_Words, Jsha_Hex xsha_Hex, Jepactref06_Hex xepactref06_Hex] [] (Jepactlaw06_ShaTells (Yepactlaw06_ShaTells xepactlaw06_small xsha_Sum xepactref06_Sum xsha_Words xepactref06_Words xsha_Hex xepactref06_Hex)) := fun x y K => by kernel_rfl
theorem Iepactlaw06_ShaTells_ok : InstOk Try.prog G.1 Iepactlaw06_ShaTells := iok (gives := gives) [] (okCons Iepactlaw06_small_ok (okCons Isha_Sum_ok (okCons Iepactref06_Sum_ok (okCons Isha_Words_ok (okCons Iepactref06_Words_ok (okCons Isha_Hex_ok (okCons Iepactref06_Hex_ok okNil))))))) 34 follows Try.func3 (by kernel_rfl) (fun x => by kernel_rfl) (Eepactlaw06_ShaTells Xepactlaw06_small Xsha_Sum Xepactref06_Sum Xsha_Words Xepactref06_Words Xsha_Hex Xepactref06_Hex)

/- epact/epactlaw06.ShaParts -/
abbrev Tepactlaw06_ShaParts : Type := (List Eng.V) → (Bool → Prop) → Prop
def Lepactlaw06_ShaParts_1 (xsha_Sum : Tsha_Sum) (K : Bool → Prop) (k2 : Q81 → Prop) : (Q82 → Prop) → Q82 → Prop := fun k9 x10 =>
 (if decide (x10.1.2.2.2.2.2.2.1 < (↑(List.length x10.1.1) : Int)) then
 (if 0 ≤ x10.1.2.2.2.2.2.2.1 ∧ x10.1.2.2.2.2.2.2.1 < (↑(List.length x10.1.1) : Int) then
 (Eng.asSl (1 : Nat) (Eng.getC x10.1.1 (Int.toNat x10.1.2.2.2.2.2.2.1) (0 : Nat)) False fun l11 l12 =>
 (if Eng.roomOk (List.length x10.2.2.2.1 + List.length l12) (1 : Nat) then
 k9 ((x10.1.1, x10.1.2.1, x10.1.2.2.1, (), (), (), w64 (x10.1.2.2.2.2.2.2.1 + 1), ()), x10.2.1, x10.2.2.1, x10.2.2.2.1 ++ l12, ())
 else
 False))
 else
 False)
 else
 (if x10.1.2.2.1 then
 (Eng.asInt IntKind.u8 (Eng.getC x10.2.1 (0 : Nat) (0 : Nat)) False fun n13 =>
 (Eng.asInt IntKind.u8 (Eng.getC x10.2.1 (0 : Nat) (1 : Nat)) False fun n14 =>
 (Eng.asInt IntKind.u8 (Eng.getC x10.2.1 (0 : Nat) (2 : Nat)) False fun n15 =>
 (Eng.asInt IntKind.u8 (Eng.getC x10.2.1 (0 : Nat) (3 : Nat)) False fun n16 =>
 (Eng.asInt IntKind.u8 (Eng.getC x10.2.1 (0 : Nat) (4 : Nat)) False fun n17 =>
 (Eng.asInt IntKind.u8 (Eng.getC x10.2.1 (0 : Nat) (5 : Nat)) False fun n18 =>
 (Eng.asInt IntKind.u8 (Eng.getC x10.2.1 (0 : Nat) (6 : Nat)) False fun n19 =>
 (Eng.asInt IntKind.u8 (Eng.getC x10.2.1 (0 : Nat) (7 : Nat)) False fun n20 =>
 (Eng.asInt IntKind.u8 (Eng.getC x10.2.1 (0 : Nat) (8 : Nat)) False fun n21 =>
 (Eng.asInt IntKind.u8 (Eng.getC x10.2.1 (0 : Nat) (9 : Nat)) False fun n22 =>
 (Eng.asInt IntKind.u8 (Eng.getC x10.2.1 (0 : Nat) (10 : Nat)) False fun n23 =>
 (Eng.asInt IntKind.u8 (Eng.getC x10.2.1 (0 : Nat) (11 : Nat)) False fun n24 =>
 (Eng.asInt IntKind.u8 (Eng.getC x10.2.1 (0 : Nat) (12 : Nat)) False fun n25 =>
 (Eng.asInt IntKind.u8 (Eng.getC x10.2.1 (0 : Nat) (13 : Nat)) False fun n26 =>
 (Eng.asInt IntKind.u8 (Eng.getC x10.2.1 (0 : Nat) (14 : Nat)) False fun n27 =>
 (Eng.asInt IntKind.u8 (Eng.getC x10.2.1 (0 : Nat) (15 : Nat)) False fun n28 =>
 (Eng.asInt IntKind.u8 (Eng.getC x10.2.1 (0 : Nat) (16 : Nat)) False fun n29 =>
 (Eng.asInt IntKind.u8 (Eng.getC x10.2.1 (0 : Nat) (17 : Nat)) False fun n30 =>
 (Eng.asInt IntKind.u8 (Eng.getC x10.2.1 (0 : Nat) (18 : Nat)) False fun n31 =>
 (Eng.asInt IntKind.u8 (Eng.getC x10.2.1 (0 : Nat) (19 : Nat)) False fun n32 =>
 xsha_Sum ([Eng.V.sl (1 : Nat) false x10.2.2.1]) (fun r33 =>
 (lt (n13 == r33.1 && (n14 == r33.2.1 && (n15 == r33.2.2.1 && (n16 == r33.2.2.2.1 && (n17 == r33.2.2.2.2.1 && (n18 == r33.2.2.2.2.2.1 && (n19 == r33.2.2.2.2.2.2.1 && (n20 == r33.2.2.2.2.2.2.2.1 && (n21 == r33.2.2.2.2.2.2.2.2.1 && (n22 == r33.2.2.2.2.2.2.2.2.2.1 && (n23 == r33.2.2.2.2.2.2.2.2.2.2.1 && (n24 == r33.2.2.2.2.2.2.2.2.2.2.2.1 && (n25 == r33.2.2.2.2.2.2.2.2.2.2.2.2.1 && (n26 == r33.2.2.2.2.2.2.2.2.2.2.2.2.2.1 && (n27 == r33.2.2.2.2.2.2.2.2.2.2.2.2.2.2.1 && (n28 == r33.2.2.2.2.2.2.2.2.2.2.2.2.2.2.2.1 && (n29 == r33.2.2.2.2.2.2.2.2.2.2.2.2.2.2.2.2.1 && (n30 == r33.2.2.2.2.2.2.2.2.2.2.2.2.2.2.2.2.2.1 && (n31 == r33.2.2.2.2.2.2.2.2.2.2.2.2.2.2.2.2.2.2.1 && (n32 == r33.2.2.2.2.2.2.2.2.2.2.2.2.2.2.2.2.2.2.2.1 && true)))))))))))))))))))) fun v34 =>
 (if v34 then
 (
 (if Eng.allU8 x10.2.2.2.1 then
 (if Eng.allU8 x10.2.2.1 then
 K (ByteArray.toList (Eng.packB x10.2.2.2.1) == ByteArray.toList (Eng.packB x10.2.2.1))
 else
 False)
 else
 False)
 ∧
 (if Eng.allU8 x10.2.2.1 then
 (if Eng.allU8 x10.2.2.2.1 then
 K (ByteArray.toList (Eng.packB x10.2.2.2.1) == ByteArray.toList (Eng.packB x10.2.2.1))
 else
 False)
 else
 False))
 else
 (dup (
 K false)))))))))))))))))))))))))
 else
 (dup (
 K false))))
def Lepactlaw06_ShaParts_1p : Lp := ⟨477, [.trim 477, .fat 7 1 1072, .trim 477], pT83, pH84, 0⟩
def Lepactlaw06_ShaParts_0 (xsha_Sum : Tsha_Sum) (K : Bool → Prop) : (Q81 → Prop) → Q81 → Prop := fun k2 x3 =>
 (if decide (x3.1.2.2.2.2.1 < (↑(List.length x3.1.1) : Int)) then
 (if 0 ≤ x3.1.2.2.2.2.1 ∧ x3.1.2.2.2.2.1 < (↑(List.length x3.1.1) : Int) then
 (Eng.asSl (1 : Nat) (Eng.getC x3.1.1 (Int.toNat x3.1.2.2.2.2.1) (0 : Nat)) False fun l4 l5 =>
 (if decide ((↑(List.length l5) : Int) > 100) then
 K x3.1.2.2.1
 else
 (if 0 ≤ x3.1.2.2.2.2.1 ∧ x3.1.2.2.2.2.1 < (↑(List.length x3.1.1) : Int) then
 (Eng.asSl (1 : Nat) (Eng.getC x3.1.1 (Int.toNat x3.1.2.2.2.2.1) (0 : Nat)) False fun l6 l7 =>
 (if Eng.roomOk (List.length x3.2.1 + List.length l7) (1 : Nat) then
 k2 ((x3.1.1, x3.1.2.1, x3.1.2.2.1, (), w64 (x3.1.2.2.2.2.1 + 1), ()), x3.2.1 ++ l7, ())
 else
 False))
 else
 False)))
 else
 False)
 else
 xsha_Sum x3.1.1 (fun r8 =>
 lp (Lepactlaw06_ShaParts_1 xsha_Sum K k2) ((x3.1.1, x3.1.2.1, x3.1.2.2.1, (), (), (), 0, ()), [Eng.V.agg [Eng.V.c (Value.int IntKind.u8 r8.1), Eng.V.c (Value.int IntKind.u8 r8.2.1), Eng.V.c (Value.int IntKind.u8 r8.2.2.1), Eng.V.c (Value.int IntKind.u8 r8.2.2.2.1), Eng.V.c (Value.int IntKind.u8 r8.2.2.2.2.1), Eng.V.c (Value.int IntKind.u8 r8.2.2.2.2.2.1), Eng.V.c (Value.int IntKind.u8 r8.2.2.2.2.2.2.1), Eng.V.c (Value.int IntKind.u8 r8.2.2.2.2.2.2.2.1), Eng.V.c (Value.int IntKind.u8 r8.2.2.2.2.2.2.2.2.1), Eng.V.c (Value.int IntKind.u8 r8.2.2.2.2.2.2.2.2.2.1), Eng.V.c (Value.int IntKind.u8 r8.2.2.2.2.2.2.2.2.2.2.1), Eng.V.c (Value.int IntKind.u8 r8.2.2.2.2.2.2.2.2.2.2.2.1), Eng.V.c (Value.int IntKind.u8 r8.2.2.2.2.2.2.2.2.2.2.2.2.1), Eng.V.c (Value.int IntKind.u8 r8.2.2.2.2.2.2.2.2.2.2.2.2.2.1), Eng.V.c (Value.int IntKind.u8 r8.2.2.2.2.2.2.2.2.2.2.2.2.2.2.1), Eng.V.c (Value.int IntKind.u8 r8.2.2.2.2.2.2.2.2.2.2.2.2.2.2.2.1), Eng.V.c (Value.int IntKind.u8 r8.2.2.2.2.2.2.2.2.2.2.2.2.2.2.2.2.1), Eng.V.c (Value.int IntKind.u8 r8.2.2.2.2.2.2.2.2.2.2.2.2.2.2.2.2.2.1), Eng.V.c (Value.int IntKind.u8 r8.2.2.2.2.2.2.2.2.2.2.2.2.2.2.2.2.2.2.1), Eng.V.c (Value.int IntKind.u8 r8.2.2.2.2.2.2.2.2.2.2.2.2.2.2.2.2.2.2.2.1)]], x3.2.1, [], ())))
def Lepactlaw06_ShaParts_0p : Lp := ⟨61, [.trim 61, .fat 4 1 1056, .trim 61], pT85, pH86, 0⟩
def Yepactlaw06_ShaParts (xepactlaw06_small : Tepactlaw06_small) (xsha_Sum : Tsha_Sum) (a0 : (List Eng.V)) (K : Bool → Prop) : Prop :=
 xepactlaw06_small (fun r1 =>
 (if decide ((↑(List.length a0) : Int) > 20) then
 K r1
 else
 lp (Lepactlaw06_ShaParts_0 xsha_Sum K) ((a0, false, r1, (), 0, ()), [], ())))
def Xepactlaw06_ShaParts : Tepactlaw06_ShaParts := Yepactlaw06_ShaParts Xepactlaw06_small Xsha_Sum
def Jepactlaw06_ShaParts (X : Tepactlaw06_ShaParts) : Inst := mkI 4 pL8 .nil pL43 .nil X
def Iepactlaw06_ShaParts : Inst := Jepactlaw06_ShaParts Xepactlaw06_ShaParts
theorem Eepactlaw06_ShaParts (xepactlaw06_small : Tepactlaw06_small) (xsha_Sum : Tsha_Sum) : EqF Try.prog 62 gives Try.f4 [Jepactlaw06_small xepactlaw06_small, Jsha_Sum xsha_Sum] [Lepactlaw06_ShaParts_0p, Lepactlaw06_ShaParts_1p] (Jepactlaw06_ShaParts (Yepactlaw06_ShaParts xepactlaw06_small xsha_Sum)) := fun x y K => by kernel_rfl
theorem Iepactlaw06_ShaParts_ok : InstOk Try.prog G.1 Iepactlaw06_ShaParts := iok (gives := gives) [Lepactlaw06_ShaParts_0p, Lepactlaw06_ShaParts_1p] (okCons Iepactlaw06_small_ok (okCons Isha_Sum_ok okNil)) 62 follows Try.func4 (by kernel_rfl) (fun x => by kernel_rfl) (Eepactlaw06_ShaParts Xepactlaw06_small Xsha_Sum)

end Go.Proofs.Ytpekhidbfjlboaa
end
section
set_option linter.unusedVariables false
set_option linter.unusedSimpArgs false

end
section
set_option linter.unusedVariables false
set_option linter.unusedSimpArgs false
set_option linter.unusedVariables false
namespace Go.Proofs.Ytpekhidbfjlboaa
open Go Go.Proofs.Ytpekhidbfjlboaa.Eng
abbrev akShaParts0 : AK := (.sl (.sl (.int .u8)))
/-- The law over plain data. -/
def PureShaParts : Prop := ∀ (a0 : akShaParts0.T) (h0 : akShaParts0.good a0), Xepactlaw06_ShaParts (akShaParts0.DV a0) (fun b => b = true)
end Go.Proofs.Ytpekhidbfjlboaa
end
section
set_option linter.unusedVariables false
set_option linter.unusedSimpArgs false
namespace Go.Proofs.Ytpekhidbfjlboaa.Pl
open Go
set_option linter.unusedVariables false
set_option linter.unusedSimpArgs false

def digsN : Nat → Nat → List UInt8
  | 0, _ => []
  | k + 1, u => if u < 10 then [UInt8.ofNat (48 + u)] else digsN k (u / 10) ++ [UInt8.ofNat (48 + u % 10)]
theorem digsN_eq : ∀ k u, u < 10 ^ (k + 1) → digsN (k + 1) u = Lib.decDigits u
  | 0, u, h => by rw [Lib.decDigits, digsN, if_pos (by simpa using h), dif_pos (by simpa using h)]
  | k + 1, u, h => by
    rw [Lib.decDigits, digsN]
    by_cases h1 : u < 10
    · rw [if_pos h1, dif_pos h1]
    · rw [if_neg h1, dif_neg h1, digsN_eq k (u / 10) (by rw [Nat.pow_succ] at h; omega)]
def itoaK (n : Int) : List UInt8 := if n < 0 then 45 :: digsN 20 n.natAbs else digsN 20 n.toNat
theorem itoaK_eq (n : Int) (h0 : -9223372036854775808 ≤ n) (h1 : n ≤ 9223372036854775807) : itoaK n = Lib.itoa n := by
  unfold itoaK Lib.itoa
  split
  · rw [digsN_eq 19 _ (by omega)]
  · rw [digsN_eq 19 _ (by omega)]
def isDig (c : UInt8) : Bool := 48 ≤ c.toNat && c.toNat ≤ 57
theorem takeWhile_len_of {p : UInt8 → Bool} : ∀ (l : List UInt8) (k : Nat), k ≤ l.length → (∀ j (h : j < l.length), j < k → p l[j] = true) → (∀ h : k < l.length, p l[k] = false) → (l.takeWhile p).length = k
  | [], k, hk, _, _ => by simp at hk; simp [hk]
  | a :: l, 0, _, _, h => by have := h (by simp); simp at this; simp [List.takeWhile_cons, this]
  | a :: l, k + 1, hk, h1, h2 => by
    have ha : p a = true := h1 0 (by simp) (by omega)
    rw [List.takeWhile_cons, if_pos ha, List.length_cons, takeWhile_len_of l k (by simpa using hk) (fun j hj hjk => by have := h1 (j + 1) (by simpa using hj) (by omega); simpa using this) (fun hk' => by have := h2 (by simpa using hk'); simpa using this)]
theorem decode_dig (s : ByteArray) (pos : Nat) (h : pos < s.size) : ((48 ≤ (Utf8.decode s pos).1 ∧ (Utf8.decode s pos).1 ≤ 57) → isDig s[pos] = true ∧ (Utf8.decode s pos).2 = 1) ∧ (¬ (48 ≤ (Utf8.decode s pos).1 ∧ (Utf8.decode s pos).1 ≤ 57) → isDig s[pos] = false) := by
  by_cases ha : (s[pos]'h).toNat < 128
  · rw [decode_ascii s pos h ha]
    unfold isDig
    refine ⟨fun hh => ⟨by simp; omega, rfl⟩, fun hh => ?_⟩
    simp
    omega
  · have hd := (decode_high s pos h (by omega)).1
    unfold isDig
    refine ⟨fun hh => by omega, fun _ => by simp; omega⟩

/-- A text out of a list. -/
abbrev S (l : List UInt8) : ByteArray := ⟨l.toArray⟩
theorem of_S (s : ByteArray) : s = S s.data.toList := by cases s; simp [S]
theorem S_size (l : List UInt8) : (S l).size = l.length := by simp [S, ByteArray.size]
theorem S_sizeI (l : List UInt8) : ((S l).size : Int) = (l.length : Int) := by rw [S_size]
theorem S_append (a b : List UInt8) : S a ++ S b = S (a ++ b) := ByteArray.mk_append_mk a b
theorem S_toList (l : List UInt8) : (S l).toList = l := ByteArray.toList_mk l
theorem S_data (l : List UInt8) : (S l).data.toList = l := by simp [S]
theorem S_inj {a b : List UInt8} (h : S a = S b) : a = b := by have := congrArg (fun s => s.data.toList) h; simpa [S] using this
theorem S_extract (l : List UInt8) (a b : Nat) : (S l).extract a b = S ((l.drop a).take (b - a)) := by rw [Lib.extract_eq, S_data]
theorem S_drop (l : List UInt8) (a : Nat) : (S l).extract a (S l).size = S (l.drop a) := by
  rw [S_extract, S_size, List.take_of_length_le (by simp)]
theorem S_take (l : List UInt8) (b : Nat) : (S l).extract 0 b = S (l.take b) := by rw [S_extract]; simp
theorem u8_lt (c : UInt8) : c.toNat < 256 := c.toNat_lt
theorem u8_eq {a b : UInt8} (h : a.toNat = b.toNat) : a = b := UInt8.toNat_inj.1 h

/-- How many digits a list begins with. -/
def dl (l : List UInt8) : Nat := (l.takeWhile isDig).length
theorem dl_le (l : List UInt8) : dl l ≤ l.length := by unfold dl; exact (List.takeWhile_sublist _).length_le
theorem dl_cons (c : UInt8) (l : List UInt8) : dl (c :: l) = if isDig c = true then dl l + 1 else 0 := by
  unfold dl; rw [List.takeWhile_cons]; split <;> simp
theorem dl_nil : dl [] = 0 := rfl
/-- The number of a row of digits. -/
def valL (l : List UInt8) : Nat := l.foldl (fun n c => 10 * n + (c.toNat - 48)) 0
theorem decFrom_val : ∀ (l : List UInt8) (acc : Nat), (∀ c ∈ l, isDig c = true) → Lib.decFrom acc l = some (l.foldl (fun n c => 10 * n + (c.toNat - 48)) acc)
  | [], acc, _ => rfl
  | c :: l, acc, h => by
    have hc : isDig c = true := h c (by simp)
    unfold isDig at hc
    simp at hc
    unfold Lib.decFrom Lib.digitVal
    rw [if_pos hc]
    simp only []
    rw [decFrom_val l _ (fun c' hc' => h c' (by simp [hc'])), List.foldl_cons, Nat.mul_comm]
theorem atoi_val (l : List UInt8) (hne : l ≠ []) (h : ∀ c ∈ l, isDig c = true) : Lib.atoi l = some (valL l : Int) := by
  cases l with
  | nil => exact absurd rfl hne
  | cons c r =>
    have hc : isDig c = true := h c (by simp)
    unfold isDig at hc
    simp at hc
    have h1 : (c == 45) = false := by rw [beq_eq_false_iff_ne]; rintro rfl; simp at hc
    have h2 : (c == 43) = false := by rw [beq_eq_false_iff_ne]; rintro rfl; simp at hc
    simp only [Lib.atoi, Lib.decNat, h1, h2, Bool.false_eq_true, if_false, List.isEmpty_cons]
    rw [decFrom_val _ _ h]
    rfl
theorem take_dl_dig (l : List UInt8) (k : Nat) (h : k ≤ dl l) : ∀ c ∈ l.take k, isDig c = true := by
  intro c hc
  have hs : l.take k = (l.takeWhile isDig).take k := by
    conv => lhs; rw [← List.takeWhile_append_dropWhile (p := isDig) (l := l)]
    rw [List.take_append_of_le_length h]
  rw [hs] at hc
  have hall : (l.takeWhile isDig).all isDig = true := List.all_takeWhile
  exact List.all_eq_true.1 hall c (List.mem_of_mem_take hc)

end Go.Proofs.Ytpekhidbfjlboaa.Pl
end
section
set_option linter.unusedVariables false
set_option linter.unusedSimpArgs false
namespace Go.Proofs.Ytpekhidbfjlboaa.Pl
open Go
set_option linter.unusedVariables false
set_option linter.unusedSimpArgs false

/-- What stands behind a colon: minutes, or seconds. -/
def sixtyL : List UInt8 → Int × List UInt8 × Bool
  | c :: a :: b :: r => if c = 58 ∧ isDig a = true ∧ isDig b = true ∧ a.toNat ≤ 53 then (10 * (a.toNat - 48) + (b.toNat - 48), r, true) else (0, c :: a :: b :: r, false)
  | l => (0, l, false)
theorem foldl_lt : ∀ (l : List UInt8) (acc : Nat), (∀ c ∈ l, isDig c = true) → l.foldl (fun n c => 10 * n + (c.toNat - 48)) acc < (acc + 1) * 10 ^ l.length
  | [], acc, _ => by simp
  | c :: l, acc, h => by
    have hc : isDig c = true := h c (by simp)
    unfold isDig at hc
    simp at hc
    have := foldl_lt l (10 * acc + (c.toNat - 48)) (fun c' hc' => h c' (by simp [hc']))
    rw [List.foldl_cons, List.length_cons, Nat.pow_succ]
    refine Nat.lt_of_lt_of_le this ?_
    have h1 : (10 * acc + (c.toNat - 48) + 1) ≤ (acc + 1) * 10 := by omega
    calc (10 * acc + (c.toNat - 48) + 1) * 10 ^ l.length ≤ ((acc + 1) * 10) * 10 ^ l.length := Nat.mul_le_mul_right _ h1
      _ = (acc + 1) * (10 ^ l.length * 10) := by rw [Nat.mul_assoc, Nat.mul_comm 10]
theorem valL_lt (l : List UInt8) (h : ∀ c ∈ l, isDig c = true) : valL l < 10 ^ l.length := by
  have := foldl_lt l 0 h
  simpa [valL] using this
theorem sixty_bd (l : List UInt8) : 0 ≤ (sixtyL l).1 ∧ (sixtyL l).1 ≤ 59 := by
  unfold sixtyL
  split
  · split
    · rename_i h
      obtain ⟨_, ha, hb, h5⟩ := h
      unfold isDig at ha hb
      simp at ha hb
      simp only []
      omega
    · simp
  · simp
theorem sixty_len (l : List UInt8) : (sixtyL l).2.1.length ≤ l.length := by
  unfold sixtyL
  split
  · split
    · simp; omega
    · simp
  · simp

/-- A time. -/
def signL : List UInt8 → Int × List UInt8
  | [] => (1, [])
  | c :: r => if c = 45 then (-1, r) else if c = 43 then (1, r) else (1, c :: r)
def hourL (t : List UInt8) : Nat × Nat :=
  if valL (t.take (min (dl t) 3)) > 167 then (valL (t.take (min (dl t) 3)) / 10, min (dl t) 3 - 1) else (valL (t.take (min (dl t) 3)), min (dl t) 3)
def moreL (p : Int × List UInt8 × Bool) : Int × List UInt8 × Bool := if p.2.2 = true then sixtyL p.2.1 else (0, p.2.1, false)
def timeL (l : List UInt8) : Int × List UInt8 × Bool :=
  if dl (signL l).2 = 0 then (0, l, false)
  else
    ((signL l).1 * ((hourL (signL l).2).1 * 3600 + (sixtyL ((signL l).2.drop (hourL (signL l).2).2)).1 * 60 + (moreL (sixtyL ((signL l).2.drop (hourL (signL l).2).2))).1),
      (moreL (sixtyL ((signL l).2.drop (hourL (signL l).2).2))).2.1, true)
theorem hour_bd (t : List UInt8) : (hourL t).1 ≤ 167 ∧ (hourL t).2 ≤ dl t ∧ (hourL t).2 ≤ 3 ∧ (dl t ≠ 0 → 1 ≤ (hourL t).2) := by
  have hv : valL (t.take (min (dl t) 3)) < 10 ^ (t.take (min (dl t) 3)).length := valL_lt _ (take_dl_dig t _ (Nat.min_le_left _ _))
  have hl : (t.take (min (dl t) 3)).length ≤ 3 := by rw [List.length_take]; omega
  have h3 : 10 ^ (t.take (min (dl t) 3)).length ≤ 10 ^ 3 := Nat.pow_le_pow_right (by omega) hl
  have hm : min (dl t) 3 ≤ dl t := Nat.min_le_left _ _
  have hm3 : min (dl t) 3 ≤ 3 := Nat.min_le_right _ _
  unfold hourL
  split
  · rename_i hgt
    refine ⟨by simp only []; omega, by simp only []; omega, by simp only []; omega, fun h0 => ?_⟩
    simp only []
    have : ¬ (t.take (min (dl t) 3)).length ≤ 1 := fun h1 => by
      have : 10 ^ (t.take (min (dl t) 3)).length ≤ 10 ^ 1 := Nat.pow_le_pow_right (by omega) h1
      omega
    rw [List.length_take] at this
    omega
  · refine ⟨by simp only []; omega, by simp only []; omega, by simp only []; omega, fun h0 => by simp only []; omega⟩
theorem itoaK_nat (n : Nat) : itoaK (n : Int) = digsN 20 n := by
  unfold itoaK
  rw [if_neg (by omega), Int.toNat_natCast]
def pairL (m : Nat) : List UInt8 := 58 :: (digsN 20 (m / 10) ++ digsN 20 (m % 10))
theorem digsN_len : ∀ k u, (digsN k u).length ≤ k
  | 0, _ => by simp [digsN]
  | k + 1, u => by
    rw [digsN]
    split
    · simp
    · have := digsN_len k (u / 10); simp; omega
/-- The text of a time. -/
def clockB (a : Nat) : List UInt8 := digsN 20 (a / 3600) ++ (if a % 60 ≠ 0 then pairL (a / 60 % 60) ++ pairL (a % 60) else if a / 60 % 60 ≠ 0 then pairL (a / 60 % 60) else [])
def clockL (sec : Int) : List UInt8 × Bool := if -604799 ≤ sec ∧ sec ≤ 604799 then ((if sec < 0 then [45] else []) ++ clockB sec.natAbs, true) else ([], false)
theorem pairL_len (m : Nat) : (pairL m).length ≤ 41 := by
  have l1 := digsN_len 20 (m / 10)
  have l2 := digsN_len 20 (m % 10)
  simp [pairL]; omega
theorem hours_ok : ∀ h, h < 168 → ((digsN 20 h).all isDig = true ∧ valL (digsN 20 h) = h ∧ 1 ≤ (digsN 20 h).length ∧ (digsN 20 h).length ≤ 3) := by decide +kernel
theorem pairs_ok : ∀ m, m < 60 → pairL m = [58, UInt8.ofNat (48 + m / 10), UInt8.ofNat (48 + m % 10)] := by decide +kernel
theorem dl_app (a b : List UInt8) (ha : a.all isDig = true) (hb : ∀ c, b.head? = some c → isDig c = false) : dl (a ++ b) = a.length := by
  induction a with
  | nil =>
    cases b with
    | nil => rfl
    | cons c b => rw [List.nil_append, dl_cons, if_neg (by rw [hb c rfl]; simp)]; rfl
  | cons c a ih =>
    simp only [List.all_cons, Bool.and_eq_true] at ha
    rw [List.cons_append, dl_cons, if_pos ha.1, ih ha.2]; rfl
theorem sixty_pair (m : Nat) (h : m < 60) (r : List UInt8) : sixtyL (pairL m ++ r) = ((m : Int), r, true) := by
  rw [pairs_ok m h]
  show sixtyL (58 :: UInt8.ofNat (48 + m / 10) :: UInt8.ofNat (48 + m % 10) :: r) = _
  simp only [sixtyL]
  have h1 : (UInt8.ofNat (48 + m / 10)).toNat = 48 + m / 10 := by rw [UInt8.toNat_ofNat']; omega
  have h2 : (UInt8.ofNat (48 + m % 10)).toNat = 48 + m % 10 := by rw [UInt8.toNat_ofNat']; omega
  rw [if_pos ⟨trivial, by unfold isDig; rw [h1]; simp; omega, by unfold isDig; rw [h2]; simp; omega, by rw [h1]; omega⟩, h1, h2]
  simp only [Prod.mk.injEq, and_true]
  omega
theorem sixty_other (r : List UInt8) (h : r.head? ≠ some 58) : sixtyL r = (0, r, false) := by
  unfold sixtyL
  split
  · rename_i c a b r'
    rw [if_neg]
    rintro ⟨rfl, _⟩
    exact h rfl
  · rfl
/-- Behind the hours: nothing, or a colon. -/
theorem time_body (a : Nat) (h : a ≤ 604799) (tail : List UInt8) (ht : ∀ c, tail.head? = some c → isDig c = false ∧ c ≠ 58) (sg : Int) (l : List UInt8) (hl : signL l = (sg, clockB a ++ tail)) :
    timeL l = (sg * (a : Int), tail, true) := by
  obtain ⟨d1, d2, d3, d4⟩ := hours_ok (a / 3600) (by omega)
  have hcol : isDig 58 = false := by decide
  obtain ⟨rest, hrest, hhead⟩ : ∃ rest, clockB a ++ tail = digsN 20 (a / 3600) ++ rest ∧ (∀ c, rest.head? = some c → isDig c = false) ∧
      (a % 60 ≠ 0 → rest = pairL (a / 60 % 60) ++ (pairL (a % 60) ++ tail)) ∧ (a % 60 = 0 → a / 60 % 60 ≠ 0 → rest = pairL (a / 60 % 60) ++ tail) ∧ (a % 60 = 0 → a / 60 % 60 = 0 → rest = tail) := by
    unfold clockB
    by_cases hs : a % 60 = 0
    · rw [if_neg (by simpa using hs)]
      by_cases hm : a / 60 % 60 = 0
      · rw [if_neg (by simpa using hm)]
        exact ⟨tail, by simp, fun c hc => (ht c hc).1, fun h' => absurd hs h', fun _ h' => absurd hm h', fun _ _ => rfl⟩
      · rw [if_pos (by simpa using hm)]
        exact ⟨pairL (a / 60 % 60) ++ tail, by simp, fun c hc => by simp [pairL] at hc; rw [← hc]; exact hcol, fun h' => absurd hs h', fun _ _ => rfl, fun _ h' => absurd h' hm⟩
    · rw [if_pos (by simpa using hs)]
      exact ⟨pairL (a / 60 % 60) ++ (pairL (a % 60) ++ tail), by simp, fun c hc => by simp [pairL] at hc; rw [← hc]; exact hcol, fun _ => rfl, fun h' => absurd h' hs, fun h' => absurd h' hs⟩
  have hdl : dl (digsN 20 (a / 3600) ++ rest) = (digsN 20 (a / 3600)).length := dl_app _ _ d1 hhead.1
  have hmin : min (dl (digsN 20 (a / 3600) ++ rest)) 3 = (digsN 20 (a / 3600)).length := by rw [hdl]; omega
  have hhour : hourL (digsN 20 (a / 3600) ++ rest) = (a / 3600, (digsN 20 (a / 3600)).length) := by
    unfold hourL
    rw [hmin, List.take_left, d2, if_neg (by omega)]
  unfold timeL
  rw [hl, hrest]
  simp only []
  rw [hhour]
  simp only []
  rw [if_neg (by omega), List.drop_left]
  by_cases hs : a % 60 = 0
  · by_cases hm : a / 60 % 60 = 0
    · rw [hhead.2.2.2 hs hm, sixty_other _ (fun e => (ht 58 e).2 rfl)]
      simp only [moreL, Prod.mk.injEq, and_true, Bool.false_eq_true, if_false]
      congr 1
      omega
    · rw [hhead.2.2.1 hs hm, sixty_pair _ (by omega)]
      simp only [moreL, if_true]
      rw [sixty_other _ (fun e => (ht 58 e).2 rfl)]
      simp only [Prod.mk.injEq, and_true]
      congr 1
      omega
  · rw [hhead.2.1 hs, sixty_pair _ (by omega)]
    simp only [moreL, if_true]
    rw [sixty_pair _ (by omega)]
    simp only [Prod.mk.injEq, and_true]
    congr 1
    omega
theorem clockB_head (a : Nat) (h : a ≤ 604799) (tail : List UInt8) : ∃ c r, clockB a ++ tail = c :: r ∧ isDig c = true := by
  obtain ⟨d1, d2, d3, d4⟩ := hours_ok (a / 3600) (by omega)
  unfold clockB
  match hq : digsN 20 (a / 3600), d3 with
  | c :: q, _ =>
    rw [hq] at d1
    simp only [List.all_cons, Bool.and_eq_true] at d1
    exact ⟨c, _, rfl, d1.1⟩
theorem time_clock (sec : Int) (h : -604799 ≤ sec ∧ sec ≤ 604799) (tail : List UInt8) (ht : ∀ c, tail.head? = some c → isDig c = false ∧ c ≠ 58) : timeL ((clockL sec).1 ++ tail) = (sec, tail, true) := by
  unfold clockL
  rw [if_pos h]
  by_cases h0 : sec < 0
  · simp only [if_pos h0]
    rw [time_body sec.natAbs (by omega) tail ht (-1) _ (by simp [signL])]
    congr 1
    omega
  · simp only [if_neg h0, List.nil_append]
    obtain ⟨c, r, e, hc⟩ := clockB_head sec.natAbs (by omega) tail
    have hc' : c ≠ 45 ∧ c ≠ 43 := by constructor <;> (rintro rfl; exact absurd hc (by decide))
    rw [time_body sec.natAbs (by omega) tail ht 1 _ (by rw [e]; simp [signL, hc'])]
    congr 1
    omega

/-! ### What is behind a time is an end of the text -/
theorem sixty_drop (l : List UInt8) : ∃ j, j ≤ l.length ∧ (sixtyL l).2.1 = l.drop j := by
  unfold sixtyL
  split
  · split
    · exact ⟨3, by simp, rfl⟩
    · exact ⟨0, by simp, rfl⟩
  · exact ⟨0, by simp, rfl⟩
theorem sign_drop (l : List UInt8) : ∃ j, j ≤ l.length ∧ (signL l).2 = l.drop j ∧ ((signL l).1 = 1 ∨ (signL l).1 = -1) := by
  unfold signL
  split
  · exact ⟨0, by simp, rfl, .inl rfl⟩
  · split
    · exact ⟨1, by simp, rfl, .inr rfl⟩
    · split
      · exact ⟨1, by simp, rfl, .inl rfl⟩
      · exact ⟨0, by simp, rfl, .inl rfl⟩
theorem time_drop (l : List UInt8) : ∃ j, j ≤ l.length ∧ (timeL l).2.1 = l.drop j ∧ ((timeL l).2.2 = true ↔ 0 < j) ∧ -604799 ≤ (timeL l).1 ∧ (timeL l).1 ≤ 604799 ∧ ((timeL l).2.2 = false → (timeL l).1 = 0 ∧ j = 0) := by
  obtain ⟨j0, h0, e0, hs⟩ := sign_drop l
  unfold timeL
  by_cases hd : dl (signL l).2 = 0
  · rw [if_pos hd]
    exact ⟨0, by omega, by simp, by simp, by simp, by simp, by simp⟩
  · rw [if_neg hd]
    obtain ⟨b1, b2, b3, b4⟩ := hour_bd (signL l).2
    have b4' := b4 hd
    have hdl := dl_le (signL l).2
    obtain ⟨j1, h1, e1⟩ := sixty_drop ((signL l).2.drop (hourL (signL l).2).2)
    have s1 := sixty_bd ((signL l).2.drop (hourL (signL l).2).2)
    have key : ∃ j2, j2 ≤ (sixtyL ((signL l).2.drop (hourL (signL l).2).2)).2.1.length ∧ (moreL (sixtyL ((signL l).2.drop (hourL (signL l).2).2))).2.1 = (sixtyL ((signL l).2.drop (hourL (signL l).2).2)).2.1.drop j2 ∧
        0 ≤ (moreL (sixtyL ((signL l).2.drop (hourL (signL l).2).2))).1 ∧ (moreL (sixtyL ((signL l).2.drop (hourL (signL l).2).2))).1 ≤ 59 := by
      unfold moreL
      split
      · obtain ⟨j2, h2, e2⟩ := sixty_drop (sixtyL ((signL l).2.drop (hourL (signL l).2).2)).2.1
        exact ⟨j2, h2, e2, sixty_bd _⟩
      · exact ⟨0, by omega, rfl, by simp, by simp⟩
    obtain ⟨j2, h2, e2, hb1, hb2⟩ := key
    rw [e2, e1, e0, List.drop_drop, List.drop_drop, List.drop_drop]
    rw [e1] at h2
    rw [e0] at h1 h2 hdl b2
    simp only [List.length_drop] at h1 h2 hdl
    rw [e0] at b4' b3 s1 hb1 hb2
    refine ⟨_, ?_, rfl, ?_, ?_⟩
    · omega
    · simp; omega
    · generalize (sixtyL (List.drop (hourL (List.drop j0 l)).2 (List.drop j0 l))).1 = x at *
      generalize (moreL (sixtyL (List.drop (hourL (List.drop j0 l)).2 (List.drop j0 l)))).1 = y at *
      rw [e0] at b1
      generalize (hourL (List.drop j0 l)).1 = v at *
      rcases hs with hs | hs <;> rw [hs] <;> refine ⟨?_, ?_, by simp⟩ <;> omega

end Go.Proofs.Ytpekhidbfjlboaa.Pl
end
section
set_option linter.unusedVariables false
set_option linter.unusedSimpArgs false
namespace Go.Proofs.Ytpekhidbfjlboaa.Pl
open Go
set_option linter.unusedVariables false
set_option linter.unusedSimpArgs false

/-- A leap year. -/
def leapY (y : Int) : Bool := decide (y % 4 = 0 ∧ (y % 100 ≠ 0 ∨ y % 400 = 0))
/-- The number of a year's first day. -/
def fst (y : Int) : Int := 365 * (y - 1) + (y - 1) / 4 - (y - 1) / 100 + (y - 1) / 400 - 719162
/-- How many days of a common year lie ahead of a month. -/
def cum0 (m : Int) : Int := if m = 1 then 0 else if m = 2 then 31 else if m = 3 then 59 else if m = 4 then 90 else if m = 5 then 120 else if m = 6 then 151 else if m = 7 then 181 else if m = 8 then 212 else if m = 9 then 243 else if m = 10 then 273 else if m = 11 then 304 else if m = 12 then 334 else 365
def cum (y m : Int) : Int := cum0 m + if 2 < m ∧ leapY y = true then 1 else 0
def dim (y m : Int) : Int := if m = 2 then (if leapY y = true then 29 else 28) else if m = 4 then 30 else if m = 6 then 30 else if m = 9 then 30 else if m = 11 then 30 else 31
/-- The number of a date. -/
def num (y m d : Int) : Int := fst y + cum y m + d - 1
/-- A date. -/
def Vld (y m d : Int) : Prop := 1 ≤ y ∧ y ≤ 9999 ∧ 1 ≤ m ∧ m ≤ 12 ∧ 1 ≤ d ∧ d ≤ dim y m

theorem leapY_iff (y : Int) : leapY y = true ↔ (y % 4 = 0 ∧ (y % 100 ≠ 0 ∨ y % 400 = 0)) := by unfold leapY; exact decide_eq_true_iff
theorem month_cases {m : Int} (h1 : 1 ≤ m) (h2 : m ≤ 12) : m = 1 ∨ m = 2 ∨ m = 3 ∨ m = 4 ∨ m = 5 ∨ m = 6 ∨ m = 7 ∨ m = 8 ∨ m = 9 ∨ m = 10 ∨ m = 11 ∨ m = 12 := by omega
theorem dim_bd (y m : Int) : 28 ≤ dim y m ∧ dim y m ≤ 31 := by unfold dim; repeat' split <;> omega
theorem fst_succ (y : Int) : fst (y + 1) = fst y + 365 + if leapY y = true then 1 else 0 := by
  have := leapY_iff y
  unfold fst
  by_cases h : leapY y = true
  · rw [if_pos h]; have := this.1 h; omega
  · rw [if_neg h]
    have h' : ¬ (y % 4 = 0 ∧ (y % 100 ≠ 0 ∨ y % 400 = 0)) := fun z => h (this.2 z)
    omega
theorem cum_succ (y m : Int) (h1 : 1 ≤ m) (h2 : m ≤ 12) : cum y m + dim y m = if m = 12 then 365 + (if leapY y = true then 1 else 0) else cum y (m + 1) := by
  rcases month_cases h1 h2 with rfl | rfl | rfl | rfl | rfl | rfl | rfl | rfl | rfl | rfl | rfl | rfl <;>
    cases hl : leapY y <;> simp [cum, cum0, dim, hl]
theorem num_bd {y m d : Int} (h : Vld y m d) : fst y ≤ num y m d ∧ num y m d < fst (y + 1) := by
  obtain ⟨_, _, h1, h2, h3, h4⟩ := h
  rw [fst_succ]
  unfold num
  rcases month_cases h1 h2 with rfl | rfl | rfl | rfl | rfl | rfl | rfl | rfl | rfl | rfl | rfl | rfl <;>
    cases hl : leapY y <;> simp [cum, cum0, dim, hl] at h4 ⊢ <;> omega
theorem fst_bd {y : Int} (h1 : 1 ≤ y) (h2 : y ≤ 9999) : -719162 ≤ fst y ∧ fst (y + 1) ≤ 2932897 := by unfold fst; omega
theorem fst_le {y z : Int} (h : y ≤ z) : fst y ≤ fst z := by unfold fst; omega
theorem num_range {y m d : Int} (h : Vld y m d) : -719162 ≤ num y m d ∧ num y m d ≤ 2932896 := by
  have := num_bd h
  have := fst_bd h.1 h.2.1
  omega

/-! ### Years that begin with March -/
/-- A date's year and month, so counted. -/
def sy (y m : Int) : Int := if m < 3 then y - 1 else y
def sm (m : Int) : Int := if m < 3 then m + 12 else m
/-- The program's own formula. -/
def numP (y m d : Int) : Int := 146097 * (sy y m / 400) + 365 * (sy y m % 400) + (sy y m % 400) / 4 - (sy y m % 400) / 100 + ((153 * (sm m - 3) + 2) / 5 + d - 1) - 719468
theorem numP_eq {y m d : Int} (h1 : 1 ≤ m) (h2 : m ≤ 12) : numP y m d = num y m d := by
  have hl := leapY_iff y
  have key : ∀ b : Bool, leapY y = b → numP y m d = num y m d := by
    intro b hb
    cases b with
    | true =>
      have hl' := hl.1 hb
      rcases month_cases h1 h2 with rfl | rfl | rfl | rfl | rfl | rfl | rfl | rfl | rfl | rfl | rfl | rfl <;>
        simp [numP, num, fst, cum, cum0, sy, sm, hb] <;> omega
    | false =>
      have hl' : ¬ (y % 4 = 0 ∧ (y % 100 ≠ 0 ∨ y % 400 = 0)) := fun z => by rw [hl.2 z] at hb; cases hb
      rcases month_cases h1 h2 with rfl | rfl | rfl | rfl | rfl | rfl | rfl | rfl | rfl | rfl | rfl | rfl <;>
        simp [numP, num, fst, cum, cum0, sy, sm, hb] <;> omega
  exact key _ rfl

/-- The first day of March-year b of an era. -/
def st (b : Int) : Int := 365 * b + b / 4 - b / 100
def gy (o : Int) : Int := o - o / 1460 + o / 36524 - o / 146096
theorem gy_mono {a b : Int} (h0 : 0 ≤ a) (h : a ≤ b) (hb : b ≤ 146096) : gy a ≤ gy b := by unfold gy; omega
theorem ends : ∀ n : Nat, n < 400 → (gy (st n) / 365 = n ∧ gy (st (n + 1) - (if n = 399 then 0 else 1)) / 365 = n) := by decide +kernel
theorem st_400 : st 399 + 365 = 146096 := by decide
/-- The year of a day of an era. -/
theorem year_of {o b : Int} (h0 : 0 ≤ b) (h1 : b < 400) (h2 : st b ≤ o) (h3 : o < st (b + 1) ∨ (b = 399 ∧ o ≤ 146096)) : gy o / 365 = b := by
  obtain ⟨n, rfl⟩ := Int.eq_ofNat_of_zero_le h0
  obtain ⟨e1, e2⟩ := ends n (by omega)
  have hs0 : 0 ≤ st n := by unfold st; omega
  have hs1 : st (n + 1) ≤ 146097 := by unfold st; omega
  by_cases hn : n = 399
  · subst hn
    have hm : st ((399 : Nat) + 1) = 146096 := by decide
    rw [if_pos rfl, hm] at e2
    have ho : o ≤ 146096 := by
      rcases h3 with h3 | h3
      · have : ((399 : Nat) : Int) + 1 = 400 := rfl
        rw [this] at h3; have : st 400 = 146096 := by decide
        omega
      · exact h3.2
    have g1 := gy_mono hs0 h2 ho
    have g2 := gy_mono (by omega : 0 ≤ o) ho (Int.le_refl _)
    simp only [Int.sub_zero] at e2
    omega
  · rw [if_neg hn] at e2
    have ho : o ≤ st (n + 1) - 1 := by
      rcases h3 with h3 | h3
      · omega
      · omega
    have g1 := gy_mono hs0 h2 (by omega)
    have g2 := gy_mono (by omega : 0 ≤ o) ho (by omega)
    omega

/-- The program's own date of a number. -/
def era (n : Int) : Int := (n + 719468) / 146097
def ofE (n : Int) : Int := (n + 719468) % 146097
def yrs (n : Int) : Int := gy (ofE n) / 365
def doy (n : Int) : Int := ofE n - st (yrs n)
def mon (n : Int) : Int := (5 * doy n + 2) / 153
def dayP (n : Int) : Int := doy n - (153 * mon n + 2) / 5 + 1
def monP (n : Int) : Int := if mon n + 3 > 12 then mon n + 3 - 12 else mon n + 3
def yearP (n : Int) : Int := 400 * era n + (if mon n + 3 > 12 then yrs n + 1 else yrs n)

theorem date_num' {y m d : Int} (h : Vld y m d) : (0 ≤ doy (num y m d) ∧ doy (num y m d) ≤ 365) ∧ yearP (num y m d) = y ∧ monP (num y m d) = m ∧ dayP (num y m d) = d := by
  obtain ⟨a1, a2, h1, h2, h3, h4⟩ := h
  have hl := leapY_iff y
  rw [← numP_eq h1 h2]
  have hb : 0 ≤ sy y m % 400 ∧ sy y m % 400 < 400 := by omega
  have hdoy : 0 ≤ (153 * (sm m - 3) + 2) / 5 + d - 1 ∧ st (sy y m % 400) + ((153 * (sm m - 3) + 2) / 5 + d - 1) ≤ 146096 ∧
      (st (sy y m % 400) + ((153 * (sm m - 3) + 2) / 5 + d - 1) < st (sy y m % 400 + 1) ∨ sy y m % 400 = 399) := by
    unfold st
    cases hb' : leapY y with
    | true =>
      have hl' := hl.1 hb'
      rcases month_cases h1 h2 with rfl | rfl | rfl | rfl | rfl | rfl | rfl | rfl | rfl | rfl | rfl | rfl <;>
        simp [sy, sm, dim, hb'] at h4 ⊢ <;> omega
    | false =>
      have hl' : ¬ (y % 4 = 0 ∧ (y % 100 ≠ 0 ∨ y % 400 = 0)) := fun z => by rw [hl.2 z] at hb'; cases hb'
      rcases month_cases h1 h2 with rfl | rfl | rfl | rfl | rfl | rfl | rfl | rfl | rfl | rfl | rfl | rfl <;>
        simp [sy, sm, dim, hb'] at h4 ⊢ <;> omega
  have hst0 : 0 ≤ st (sy y m % 400) := by unfold st; omega
  have hN : numP y m d + 719468 = 146097 * (sy y m / 400) + (st (sy y m % 400) + ((153 * (sm m - 3) + 2) / 5 + d - 1)) := by unfold numP st; omega
  have hera : era (numP y m d) = sy y m / 400 := by unfold era; omega
  have hof : ofE (numP y m d) = st (sy y m % 400) + ((153 * (sm m - 3) + 2) / 5 + d - 1) := by unfold ofE; omega
  have hyrs : yrs (numP y m d) = sy y m % 400 := by
    unfold yrs
    rw [hof]
    refine year_of hb.1 hb.2 (by omega) ?_
    rcases hdoy.2.2 with h | h
    · exact .inl h
    · exact .inr ⟨h, hdoy.2.1⟩
  have hdy : doy (numP y m d) = (153 * (sm m - 3) + 2) / 5 + d - 1 := by unfold doy; rw [hof, hyrs]; omega
  have hdd := dim_bd y m
  have hmon : mon (numP y m d) = sm m - 3 := by
    unfold mon
    rw [hdy]
    rcases month_cases h1 h2 with rfl | rfl | rfl | rfl | rfl | rfl | rfl | rfl | rfl | rfl | rfl | rfl <;>
      simp [sm, dim] at h4 ⊢ <;> omega
  refine ⟨?_, ?_, ?_, ?_⟩
  · rw [hdy]
    rcases month_cases h1 h2 with rfl | rfl | rfl | rfl | rfl | rfl | rfl | rfl | rfl | rfl | rfl | rfl <;>
      simp [sm, dim] at h4 ⊢ <;> omega
  · unfold yearP
    rw [hera, hyrs, hmon]
    rcases month_cases h1 h2 with rfl | rfl | rfl | rfl | rfl | rfl | rfl | rfl | rfl | rfl | rfl | rfl <;>
      simp [sm, sy] <;> omega
  · unfold monP
    rw [hmon]
    rcases month_cases h1 h2 with rfl | rfl | rfl | rfl | rfl | rfl | rfl | rfl | rfl | rfl | rfl | rfl <;> simp [sm]
  · unfold dayP
    rw [hdy, hmon]
    omega
theorem date_num {y m d : Int} (h : Vld y m d) : yearP (num y m d) = y ∧ monP (num y m d) = m ∧ dayP (num y m d) = d := (date_num' h).2

/-! ### Each number is a date's -/
theorem year_ex (n : Int) (h0 : fst 1 ≤ n) : ∀ k : Nat, n < fst (1 + k) → ∃ y : Int, 1 ≤ y ∧ y ≤ k ∧ fst y ≤ n ∧ n < fst (y + 1)
  | 0, h => by simp at h; omega
  | k + 1, h => by
    by_cases h1 : n < fst (1 + k)
    · obtain ⟨y, a, b, c, d⟩ := year_ex n h0 k h1
      exact ⟨y, a, by omega, c, d⟩
    · exact ⟨1 + k, by omega, by omega, by omega, by have e : ((k + 1 : Nat) : Int) = (k : Int) + 1 := rfl; rw [e] at h; rw [Int.add_assoc]; exact h⟩
theorem cum_mono (y m : Int) (h1 : 1 ≤ m) (h2 : m < 12) : cum y m + 28 ≤ cum y (m + 1) := by
  have := cum_succ y m h1 (by omega)
  rw [if_neg (by omega)] at this
  have := dim_bd y m
  omega
theorem month_ex (y r : Int) (h0 : 0 ≤ r) : ∀ k : Nat, k < 12 → r < cum y (1 + k) → ∃ m : Int, 1 ≤ m ∧ m ≤ k ∧ cum y m ≤ r ∧ r < cum y (m + 1)
  | 0, _, h => by simp [cum, cum0] at h; omega
  | k + 1, hk, h => by
    by_cases h1 : r < cum y (1 + k)
    · obtain ⟨m, a, b, c, d⟩ := month_ex y r h0 k (by omega) h1
      exact ⟨m, a, by omega, c, d⟩
    · exact ⟨1 + k, by omega, by omega, by omega, by have e : ((k + 1 : Nat) : Int) = (k : Int) + 1 := rfl; rw [e] at h; rw [Int.add_assoc]; exact h⟩
theorem date_ex {n : Int} (h0 : -719162 ≤ n) (h1 : n ≤ 2932896) : ∃ y m d, Vld y m d ∧ num y m d = n := by
  obtain ⟨y, a, b, c, e⟩ := year_ex n (by have : fst 1 = -719162 := by decide
                                          omega) 9999 (by have : fst (1 + (9999 : Nat)) = 2932897 := by decide
                                                          omega)
  rw [fst_succ] at e
  by_cases h : n - fst y < cum y 12
  · obtain ⟨m, a', b', c', e'⟩ := month_ex y (n - fst y) (by omega) 11 (by omega) h
    have hs := cum_succ y m a' (by omega)
    rw [if_neg (by omega)] at hs
    exact ⟨y, m, n - fst y - cum y m + 1, ⟨a, by omega, a', by omega, by omega, by omega⟩, by unfold num; omega⟩
  · have hs := cum_succ y 12 (by omega) (by omega)
    rw [if_pos rfl] at hs
    exact ⟨y, 12, n - fst y - cum y 12 + 1, ⟨a, by omega, by omega, by omega, by omega, by omega⟩, by unfold num; omega⟩
theorem num_date {n : Int} (h0 : -719162 ≤ n) (h1 : n ≤ 2932896) : Vld (yearP n) (monP n) (dayP n) ∧ num (yearP n) (monP n) (dayP n) = n := by
  obtain ⟨y, m, d, hv, rfl⟩ := date_ex h0 h1
  obtain ⟨e1, e2, e3⟩ := date_num hv
  rw [e1, e2, e3]
  exact ⟨hv, rfl⟩
theorem doy_bd {n : Int} (h0 : -719162 ≤ n) (h1 : n ≤ 2932896) : 0 ≤ doy n ∧ doy n ≤ 365 := by
  obtain ⟨y, m, d, hv, rfl⟩ := date_ex h0 h1
  exact (date_num' hv).1
theorem num_inj {y m d y' m' d' : Int} (h : Vld y m d) (h' : Vld y' m' d') (e : num y m d = num y' m' d') : y = y' ∧ m = m' ∧ d = d' := by
  have a := date_num h
  have b := date_num h'
  rw [e] at a
  exact ⟨a.1.symm.trans b.1, a.2.1.symm.trans b.2.1, a.2.2.symm.trans b.2.2⟩
/-- A day's place in the week, from Sunday on. -/
def wk (n : Int) : Int := (n + 4) % 7

end Go.Proofs.Ytpekhidbfjlboaa.Pl
end
section
set_option linter.unusedVariables false
set_option linter.unusedSimpArgs false
namespace Go.Proofs.Ytpekhidbfjlboaa.Pl
open Go
set_option linter.unusedVariables false
set_option linter.unusedSimpArgs false

def rightR (K A B C X : Int) : Bool :=
  decide ((-604799 ≤ X ∧ X ≤ 604799) ∧ ((K = 0 ∧ 1 ≤ A ∧ A ≤ 12 ∧ 1 ≤ B ∧ B ≤ 5 ∧ 0 ≤ C ∧ C ≤ 6) ∨ (K = 1 ∧ 1 ≤ A ∧ A ≤ 365 ∧ B = 0 ∧ C = 0) ∨ (K = 2 ∧ 0 ≤ A ∧ A ≤ 365 ∧ B = 0 ∧ C = 0)))
theorem right_iff (K A B C X : Int) : rightR K A B C X = true ↔ ((-604799 ≤ X ∧ X ≤ 604799) ∧ ((K = 0 ∧ 1 ≤ A ∧ A ≤ 12 ∧ 1 ≤ B ∧ B ≤ 5 ∧ 0 ≤ C ∧ C ≤ 6) ∨ (K = 1 ∧ 1 ≤ A ∧ A ≤ 365 ∧ B = 0 ∧ C = 0) ∨ (K = 2 ∧ 0 ≤ A ∧ A ≤ 365 ∧ B = 0 ∧ C = 0))) := by
  unfold rightR; exact decide_eq_true_iff
/-- The place of a rule's day in its month, from 0 on. -/
def offW (A B C y : Int) : Int := let k := (C - wk (num y A 1) + 7) % 7 + 7 * (B - 1); if k ≥ dim y A then k - 7 else k
def ruleDay (K A B C y : Int) : Int := if K = 2 then fst y + A else if K = 1 then (if A ≤ 59 ∨ leapY y = false then fst y - 1 + A else fst y + A) else num y A 1 + offW A B C y
theorem num_first (y : Int) : num y 1 1 = fst y := by unfold num cum cum0; simp
theorem dim_jan (y : Int) : dim y 1 = 31 := rfl
theorem off_bd {A B C y : Int} (h1 : 1 ≤ B) (h2 : B ≤ 5) : 0 ≤ offW A B C y ∧ offW A B C y < dim y A ∧ offW A B C y % 7 = (C - wk (num y A 1) + 7) % 7 := by
  have hd := dim_bd y A
  have hw : 0 ≤ wk (num y A 1) ∧ wk (num y A 1) < 7 := by unfold wk; omega
  unfold offW
  simp only []
  split <;> omega
theorem ruleDay_bd {K A B C X y : Int} (hy : 1 ≤ y ∧ y ≤ 9999) (hr : rightR K A B C X = true) : fst y ≤ ruleDay K A B C y ∧ ruleDay K A B C y ≤ fst y + 365 := by
  have hr' := (right_iff K A B C X).1 hr
  unfold ruleDay
  split
  · omega
  · split
    · split <;> omega
    · have hK : K = 0 ∧ 1 ≤ A ∧ A ≤ 12 ∧ 1 ≤ B ∧ B ≤ 5 ∧ 0 ≤ C ∧ C ≤ 6 := by omega
      obtain ⟨o1, o2, _⟩ := off_bd (A := A) (C := C) (y := y) hK.2.2.2.1 hK.2.2.2.2.1
      have hv : Vld y A (offW A B C y + 1) := ⟨hy.1, hy.2, hK.2.1, hK.2.2.1, by omega, by omega⟩
      have := num_bd hv
      rw [fst_succ] at this
      have e : num y A (offW A B C y + 1) = num y A 1 + offW A B C y := by unfold num; omega
      rw [e] at this
      split at this <;> omega
def cutP (c : UInt8) (l : List UInt8) : List UInt8 × Bool := if l.head? = some c then (l.tail, true) else (l, false)
theorem cut_drop (c : UInt8) (l : List UInt8) : ∃ j, j ≤ l.length ∧ (cutP c l).1 = l.drop j := by
  unfold cutP
  split
  · cases l with
    | nil => rename_i h; simp at h
    | cons a r => exact ⟨1, by simp, rfl⟩
  · exact ⟨0, by omega, rfl⟩

/-- A number of so many digits at most. -/
def numberL (l : List UInt8) (m : Nat) : Int × List UInt8 × Bool := if dl l = 0 ∨ m < dl l then (0, l, false) else ((valL (l.take (dl l)) : Int), l.drop (dl l), true)
theorem numberL_drop (l : List UInt8) (m : Nat) : ∃ j, j ≤ l.length ∧ (numberL l m).2.1 = l.drop j ∧ ((numberL l m).2.2 = true → 0 < j) := by
  unfold numberL
  split
  · exact ⟨0, by omega, rfl, by simp⟩
  · exact ⟨dl l, dl_le l, rfl, fun _ => by omega⟩
theorem numberL_len (l : List UInt8) (m : Nat) : (numberL l m).2.1.length ≤ l.length := by
  obtain ⟨j, _, e, _⟩ := numberL_drop l m
  rw [e, List.length_drop]; omega
theorem cutL_len (c : UInt8) (l : List UInt8) : (cutP c l).1.length ≤ l.length := by
  obtain ⟨j, _, e⟩ := cut_drop c l
  rw [e, List.length_drop]; omega
theorem numberL_bd (l : List UInt8) (m : Nat) : 0 ≤ (numberL l m).1 ∧ ((numberL l m).1 : Int) < ((10 ^ m : Nat) : Int) := by
  unfold numberL
  have h1 : 0 < 10 ^ m := Nat.pos_of_ne_zero (by simp)
  split
  · simp only []; omega
  · rename_i h
    have hv := valL_lt _ (take_dl_dig l _ (Nat.le_refl _))
    have h2 : 10 ^ (l.take (dl l)).length ≤ 10 ^ m := Nat.pow_le_pow_right (by omega) (by rw [List.length_take]; omega)
    simp only []; omega

def weekL (l : List UInt8) : Int × Int × Int × List UInt8 × Bool :=
  ((numberL l 2).1, (numberL (cutP 46 (numberL l 2).2.1).1 1).1, (numberL (cutP 46 (numberL (cutP 46 (numberL l 2).2.1).1 1).2.1).1 1).1,
    (numberL (cutP 46 (numberL (cutP 46 (numberL l 2).2.1).1 1).2.1).1 1).2.1,
    (numberL l 2).2.2 && (numberL (cutP 46 (numberL l 2).2.1).1 1).2.2 && (numberL (cutP 46 (numberL (cutP 46 (numberL l 2).2.1).1 1).2.1).1 1).2.2 && (cutP 46 (numberL l 2).2.1).2 && (cutP 46 (numberL (cutP 46 (numberL l 2).2.1).1 1).2.1).2)
theorem weekL_drop (l : List UInt8) : ∃ j, j ≤ l.length ∧ (weekL l).2.2.2.1 = l.drop j ∧ ((weekL l).2.2.2.2 = true → 0 < j) := by
  unfold weekL
  obtain ⟨j1, h1, e1, p1⟩ := numberL_drop l 2
  obtain ⟨j2, h2, e2⟩ := cut_drop 46 (numberL l 2).2.1
  obtain ⟨j3, h3, e3, _⟩ := numberL_drop (cutP 46 (numberL l 2).2.1).1 1
  obtain ⟨j4, h4, e4⟩ := cut_drop 46 (numberL (cutP 46 (numberL l 2).2.1).1 1).2.1
  obtain ⟨j5, h5, e5, _⟩ := numberL_drop (cutP 46 (numberL (cutP 46 (numberL l 2).2.1).1 1).2.1).1 1
  refine ⟨j1 + j2 + j3 + j4 + j5, ?_, ?_, ?_⟩
  · rw [e4, List.length_drop, e3, List.length_drop, e2, List.length_drop, e1, List.length_drop] at h5
    rw [e3, List.length_drop, e2, List.length_drop, e1, List.length_drop] at h4
    rw [e2, List.length_drop, e1, List.length_drop] at h3
    rw [e1, List.length_drop] at h2
    omega
  · simp only []
    rw [e5, e4, e3, e2, e1]
    simp only [List.drop_drop]
  · intro h
    simp only [Bool.and_eq_true] at h
    have := p1 h.1.1.1.1
    omega

/-- A rule without its time. -/
def dateL (l : List UInt8) : Int × Int × Int × Int × List UInt8 × Bool :=
  if l.head? = some 77 then (0, weekL l.tail) else if l.head? = some 74 then (1, (numberL l.tail 3).1, 0, 0, (numberL l.tail 3).2) else (2, (numberL l 3).1, 0, 0, (numberL l 3).2)
theorem dateL_drop (l : List UInt8) : ∃ j, j ≤ l.length ∧ (dateL l).2.2.2.2.1 = l.drop j ∧ ((dateL l).2.2.2.2.2 = true → 0 < j) := by
  unfold dateL
  by_cases h : l.head? = some 77
  · rw [if_pos h]
    obtain ⟨a, r, rfl⟩ : ∃ a r, l = a :: r := by cases l with | nil => simp at h | cons a r => exact ⟨a, r, rfl⟩
    obtain ⟨j, hj, e, _⟩ := weekL_drop r
    exact ⟨j + 1, by simp; omega, e, fun _ => by omega⟩
  · rw [if_neg h]
    by_cases h' : l.head? = some 74
    · rw [if_pos h']
      obtain ⟨a, r, rfl⟩ : ∃ a r, l = a :: r := by cases l with | nil => simp at h' | cons a r => exact ⟨a, r, rfl⟩
      obtain ⟨j, hj, e, _⟩ := numberL_drop r 3
      exact ⟨j + 1, by simp; omega, e, fun _ => by omega⟩
    · rw [if_neg h']
      exact numberL_drop l 3

/-- A rule. -/
def parseL (l : List UInt8) : Int × Int × Int × Int × Int × List UInt8 × Bool :=
  if (dateL l).2.2.2.2.2 = true then
    (if (dateL l).2.2.2.2.1.head? = some 47 then
      (if (timeL (dateL l).2.2.2.2.1.tail).2.2 = true ∧ rightR (dateL l).1 (dateL l).2.1 (dateL l).2.2.1 (dateL l).2.2.2.1 (timeL (dateL l).2.2.2.2.1.tail).1 = true then
        ((dateL l).1, (dateL l).2.1, (dateL l).2.2.1, (dateL l).2.2.2.1, (timeL (dateL l).2.2.2.2.1.tail).1, (timeL (dateL l).2.2.2.2.1.tail).2.1, true) else (0, 0, 0, 0, 0, l, false))
    else if rightR (dateL l).1 (dateL l).2.1 (dateL l).2.2.1 (dateL l).2.2.2.1 7200 = true then
      ((dateL l).1, (dateL l).2.1, (dateL l).2.2.1, (dateL l).2.2.2.1, 7200, (dateL l).2.2.2.2.1, true) else (0, 0, 0, 0, 0, l, false))
  else (0, 0, 0, 0, 0, l, false)
theorem parse_good (l : List UInt8) (h : (parseL l).2.2.2.2.2.2 = true) :
    rightR (parseL l).1 (parseL l).2.1 (parseL l).2.2.1 (parseL l).2.2.2.1 (parseL l).2.2.2.2.1 = true ∧ ∃ j, 0 < j ∧ j ≤ l.length ∧ (parseL l).2.2.2.2.2.1 = l.drop j := by
  obtain ⟨j, hj, e, hp⟩ := dateL_drop l
  revert h
  unfold parseL
  by_cases hok : (dateL l).2.2.2.2.2 = true
  · have hp := hp hok
    rw [if_pos hok]
    by_cases hc : (dateL l).2.2.2.2.1.head? = some 47
    · rw [if_pos hc]
      by_cases hR : (timeL (dateL l).2.2.2.2.1.tail).2.2 = true ∧ rightR (dateL l).1 (dateL l).2.1 (dateL l).2.2.1 (dateL l).2.2.2.1 (timeL (dateL l).2.2.2.2.1.tail).1 = true
      · rw [if_pos hR]
        intro _
        obtain ⟨i, hi, ei, _⟩ := time_drop (dateL l).2.2.2.2.1.tail
        refine ⟨hR.2, j + 1 + i, by omega, ?_, ?_⟩
        · rw [List.length_tail, e, List.length_drop] at hi
          have : (dateL l).2.2.2.2.1.length ≠ 0 := by intro h0; rw [List.eq_nil_of_length_eq_zero h0] at hc; simp at hc
          rw [e, List.length_drop] at this
          omega
        · simp only []
          rw [ei, e, ← List.drop_one, List.drop_drop, List.drop_drop]
          congr 1; omega
      · rw [if_neg hR]; intro h; simp at h
    · rw [if_neg hc]
      by_cases hR : rightR (dateL l).1 (dateL l).2.1 (dateL l).2.2.1 (dateL l).2.2.2.1 7200 = true
      · rw [if_pos hR]
        intro _
        exact ⟨hR, j, hp, hj, e⟩
      · rw [if_neg hR]; intro h; simp at h
  · rw [if_neg hok]; intro h; simp at h
theorem parse_bad (l : List UInt8) (h : (parseL l).2.2.2.2.2.2 = false) : parseL l = (0, 0, 0, 0, 0, l, false) := by
  revert h
  unfold parseL
  split
  · split
    · split
      · intro h; simp at h
      · intro _; rfl
    · split
      · intro h; simp at h
      · intro _; rfl
  · intro _; rfl

/-- A rule's text. -/
def headL (K A B C : Int) : List UInt8 := if K = 0 then 77 :: (itoaK A ++ 46 :: (itoaK B ++ 46 :: itoaK C)) else if K = 1 then 74 :: itoaK A else itoaK A
def tailL (X : Int) : List UInt8 := if X = 7200 then [] else 47 :: (clockL X).1
def textL (K A B C X : Int) : List UInt8 × Bool := if rightR K A B C X = true then (headL K A B C ++ tailL X, true) else ([], false)
theorem clockL_len (X : Int) : (clockL X).1.length ≤ 200 := by
  unfold clockL
  split
  · have l1 := digsN_len 20 (X.natAbs / 3600)
    have l2 := pairL_len (X.natAbs / 60 % 60)
    have l3 := pairL_len (X.natAbs % 60)
    have : (clockB X.natAbs).length ≤ 102 := by
      unfold clockB
      rw [List.length_append]
      split
      · rw [List.length_append]; omega
      · split
        · omega
        · simp; omega
    simp only []
    rw [List.length_append]
    split
    · simp; omega
    · simp; omega
  · simp
theorem itoaK_len (n : Int) : (itoaK n).length ≤ 21 := by
  unfold itoaK
  split
  · have := digsN_len 20 n.natAbs; simp; omega
  · have := digsN_len 20 n.toNat; omega
theorem textL_len (K A B C X : Int) : (textL K A B C X).1.length ≤ 300 := by
  have h1 := itoaK_len A
  have h2 := itoaK_len B
  have h3 := itoaK_len C
  have h4 := clockL_len X
  unfold textL headL tailL
  split
  · simp only []
    rw [List.length_append]
    repeat' split
    all_goals (simp; omega)
  · simp
theorem nums_ok : ∀ a, a < 366 → ((digsN 20 a).all isDig = true ∧ valL (digsN 20 a) = a ∧ 1 ≤ (digsN 20 a).length ∧ (digsN 20 a).length ≤ 3 ∧ (a < 100 → (digsN 20 a).length ≤ 2) ∧ (a < 10 → (digsN 20 a).length ≤ 1)) := by decide +kernel
theorem numberL_app (a : Nat) (ha : a < 366) (m : Nat) (hm : (digsN 20 a).length ≤ m) (t : List UInt8) (ht : ∀ c, t.head? = some c → isDig c = false) : numberL (digsN 20 a ++ t) m = ((a : Int), t, true) := by
  obtain ⟨h1, h2, h3, _⟩ := nums_ok a ha
  unfold numberL
  rw [dl_app _ _ h1 ht, if_neg (by omega), List.take_left, List.drop_left, h2]
theorem digs_head (a : Nat) (ha : a < 366) (t : List UInt8) (c : UInt8) (hc : isDig c = false) : (digsN 20 a ++ t).head? ≠ some c := by
  obtain ⟨h1, _, h3, _⟩ := nums_ok a ha
  cases hd : digsN 20 a with
  | nil => rw [hd] at h3; simp at h3
  | cons x r =>
    rw [hd] at h1
    simp only [List.cons_append, List.head?_cons, ne_eq, Option.some.injEq]
    rintro rfl
    simp only [List.all_cons, Bool.and_eq_true] at h1
    rw [hc] at h1
    exact absurd h1.1 (by simp)
theorem date_head (K A B C X : Int) (hR : rightR K A B C X = true) (t : List UInt8) (ht : ∀ c, t.head? = some c → isDig c = false) : dateL (headL K A B C ++ t) = (K, A, B, C, t, true) := by
  have hr := (right_iff K A B C X).1 hR
  obtain ⟨a, rfl⟩ : ∃ a : Nat, A = (a : Int) := ⟨A.toNat, by omega⟩
  obtain ⟨b, rfl⟩ : ∃ a : Nat, B = (a : Int) := ⟨B.toNat, by omega⟩
  obtain ⟨c, rfl⟩ : ∃ a : Nat, C = (a : Int) := ⟨C.toNat, by omega⟩
  obtain ⟨_, _, _, a3, a2, _⟩ := nums_ok a (by omega)
  unfold dateL headL
  rw [itoaK_nat, itoaK_nat, itoaK_nat]
  by_cases k0 : K = 0
  · subst k0
    obtain ⟨_, _, _, _, _, b1⟩ := nums_ok b (by omega)
    obtain ⟨_, _, _, _, _, c1⟩ := nums_ok c (by omega)
    rw [if_pos rfl, List.cons_append, if_pos (by rfl)]
    simp only [List.tail_cons, List.append_assoc, List.cons_append]
    unfold weekL
    rw [numberL_app a (by omega) 2 (a2 (by omega)) _ (by intro c hc; simp at hc; subst hc; rfl)]
    simp only []
    rw [show cutP 46 (46 :: (digsN 20 b ++ 46 :: (digsN 20 c ++ t))) = (digsN 20 b ++ 46 :: (digsN 20 c ++ t), true) from rfl]
    simp only []
    rw [numberL_app b (by omega) 1 (b1 (by omega)) _ (by intro c hc; simp at hc; subst hc; rfl)]
    simp only []
    rw [show cutP 46 (46 :: (digsN 20 c ++ t)) = (digsN 20 c ++ t, true) from rfl]
    simp only []
    rw [numberL_app c (by omega) 1 (c1 (by omega)) _ ht]
    rfl
  · rw [if_neg k0]
    by_cases k1 : K = 1
    · subst k1
      rw [if_pos rfl, List.cons_append, if_neg (by simp), if_pos (by rfl), List.tail_cons, numberL_app a (by omega) 3 a3 _ ht]
      have : b = 0 ∧ c = 0 := by omega
      rw [this.1, this.2]; rfl
    · rw [if_neg k1, if_neg (digs_head a (by omega) t 77 rfl), if_neg (digs_head a (by omega) t 74 rfl), numberL_app a (by omega) 3 a3 _ ht]
      have : b = 0 ∧ c = 0 ∧ K = 2 := by omega
      rw [this.1, this.2.1, this.2.2]; rfl
theorem parse_text (K A B C X : Int) (hR : rightR K A B C X = true) (t : List UInt8) (ht : ∀ c, t.head? = some c → isDig c = false ∧ c ≠ 58 ∧ c ≠ 47) :
    parseL ((textL K A B C X).1 ++ t) = (K, A, B, C, X, t, true) := by
  have hr := (right_iff K A B C X).1 hR
  unfold textL
  rw [if_pos hR]
  simp only []
  rw [List.append_assoc]
  have hd : dateL (headL K A B C ++ (tailL X ++ t)) = (K, A, B, C, tailL X ++ t, true) := by
    refine date_head K A B C X hR _ ?_
    intro c hc
    unfold tailL at hc
    split at hc
    · exact (ht c hc).1
    · simp at hc; subst hc; rfl
  unfold parseL
  rw [hd]
  simp only []
  rw [if_pos trivial]
  unfold tailL
  by_cases x7 : X = 7200
  · subst x7
    rw [if_pos rfl, List.nil_append, if_neg (fun h => (ht _ h).2.2 rfl), if_pos hR]
  · rw [if_neg x7, List.cons_append, if_pos (by rfl), List.tail_cons, time_clock X hr.1 t (fun c hc => ⟨(ht c hc).1, (ht c hc).2.1⟩)]
    simp only []
    rw [if_pos ⟨trivial, hR⟩]

end Go.Proofs.Ytpekhidbfjlboaa.Pl
end
section
set_option linter.unusedVariables false
set_option linter.unusedSimpArgs false
namespace Go.Proofs.Ytpekhidbfjlboaa.Pl
open Go
set_option linter.unusedVariables false
set_option linter.unusedSimpArgs false

theorem digs_one (m n : Nat) (h : n < 10) : digsN (m + 1) n = [UInt8.ofNat (48 + n)] := by rw [digsN, if_pos h]
theorem digs_more (m n : Nat) (h : ¬ n < 10) : digsN (m + 1) n = digsN m (n / 10) ++ [UInt8.ofNat (48 + n % 10)] := by rw [digsN, if_neg h]
theorem sixty_no {c a b : UInt8} {r : List UInt8} (h : ¬ (c = 58 ∧ isDig a = true ∧ isDig b = true ∧ a.toNat ≤ 53)) : sixtyL (c :: a :: b :: r) = (0, c :: a :: b :: r, false) := if_neg h
theorem sixty_yes {c a b : UInt8} {r : List UInt8} (h : c = 58 ∧ isDig a = true ∧ isDig b = true ∧ a.toNat ≤ 53) : sixtyL (c :: a :: b :: r) = (10 * ((a.toNat : Int) - 48) + ((b.toNat : Int) - 48), r, true) := if_pos h
theorem isDig_iff (a : UInt8) : isDig a = true ↔ 48 ≤ a.toNat ∧ a.toNat ≤ 57 := by unfold isDig; simp
theorem valL_one (a : UInt8) : valL [a] = a.toNat - 48 := by simp [valL]
theorem valL_two (a b : UInt8) : valL [a, b] = 10 * (a.toNat - 48) + (b.toNat - 48) := by simp [valL]
theorem valL_three (a b c : UInt8) : valL [a, b, c] = 10 * (10 * (a.toNat - 48) + (b.toNat - 48)) + (c.toNat - 48) := by simp [valL]
theorem valL_snoc (a : List UInt8) (c : UInt8) : valL (a ++ [c]) = 10 * valL a + (c.toNat - 48) := by simp [valL, List.foldl_append]
theorem take_succ_at (l : List UInt8) (j : Nat) (h : j < l.length) : l.take (j + 1) = l.take j ++ [l[j]] := (List.take_append_getElem h).symm
theorem dl_digit (l : List UInt8) : ∀ j (h : j < dl l), isDig (l[j]'(Nat.lt_of_lt_of_le h (dl_le l))) = true := by
  intro j h
  have hl := dl_le l
  have := take_dl_dig l (j + 1) (by omega)
  rw [take_succ_at l j (by omega)] at this
  exact this _ (List.mem_append_right _ (List.mem_singleton.2 rfl))
theorem dl_stop (l : List UInt8) (h : dl l < l.length) : isDig l[dl l] = false := by
  induction l with
  | nil => simp at h
  | cons a r ih =>
    by_cases ha : isDig a = true
    · have e : dl (a :: r) = dl r + 1 := by rw [dl_cons, if_pos ha]
      have h' : dl r < r.length := by rw [e] at h; simpa using h
      have := ih h'
      simp only [e, List.getElem_cons_succ]
      exact this
    · have e : dl (a :: r) = 0 := by rw [dl_cons, if_neg ha]
      simp only [e, List.getElem_cons_zero]
      simpa using ha
def refNum (l : List UInt8) (m hi : Nat) : Int × List UInt8 := if dl l = 0 ∨ m < dl l ∨ hi < valL (l.take (dl l)) then (-1, l) else ((valL (l.take (dl l)) : Int), l.drop (dl l))
theorem refNum_yes {l : List UInt8} {m hi : Nat} (h : 0 ≤ (refNum l m hi).1) : numberL l m = ((refNum l m hi).1, (refNum l m hi).2, true) := by
  unfold refNum at h ⊢
  unfold numberL
  by_cases c : dl l = 0 ∨ m < dl l ∨ hi < valL (l.take (dl l))
  · rw [if_pos c] at h; simp at h
  · rw [if_neg c, if_neg (by omega)]
theorem refNum_of {l : List UInt8} {m hi : Nat} (h : (numberL l m).2.2 = true) (hv : (numberL l m).1 ≤ (hi : Int)) : refNum l m hi = ((numberL l m).1, (numberL l m).2.1) := by
  unfold numberL at h hv ⊢
  unfold refNum
  by_cases c : dl l = 0 ∨ m < dl l
  · rw [if_pos c] at h; cases h
  · rw [if_neg c] at hv ⊢
    rw [if_neg (by simp only [] at hv; omega)]
def refDot (l : List UInt8) : Int × List UInt8 := if l.head? = some 46 then refNum l.tail 1 9 else (-1, l)
def refHead (l : List UInt8) : Int × Int × Int × Int × List UInt8 :=
  if l.head? = some 77 then (0, (refNum l.tail 2 12).1, (refDot (refNum l.tail 2 12).2).1, refDot (refDot (refNum l.tail 2 12).2).2)
  else if l.head? = some 74 then (1, (refNum l.tail 3 365).1, 0, 0, (refNum l.tail 3 365).2) else (2, (refNum l 3 365).1, 0, 0, (refNum l 3 365).2)
theorem dot_yes {l : List UInt8} (h : 0 ≤ (refDot l).1) : cutP 46 l = (l.tail, true) ∧ numberL l.tail 1 = ((refDot l).1, (refDot l).2, true) := by
  unfold refDot at h ⊢
  unfold cutP
  by_cases c : l.head? = some 46
  · rw [if_pos c] at h ⊢
    rw [if_pos c]
    exact ⟨rfl, refNum_yes h⟩
  · rw [if_neg c] at h; simp at h
theorem dot_of {l : List UInt8} (h1 : (cutP 46 l).2 = true) (h2 : (numberL (cutP 46 l).1 1).2.2 = true) : refDot l = ((numberL (cutP 46 l).1 1).1, (numberL (cutP 46 l).1 1).2.1) := by
  unfold cutP at h1 h2 ⊢
  unfold refDot
  by_cases c : l.head? = some 46
  · rw [if_pos c] at h2 ⊢
    rw [if_pos c]
    have hb := numberL_bd l.tail 1
    exact refNum_of h2 (by have h3 := hb.2; rw [show ((10 ^ 1 : Nat) : Int) = 10 from rfl] at h3; omega)
  · rw [if_neg c] at h1; cases h1
theorem head_yes (l : List UInt8) (h : rightR (refHead l).1 (refHead l).2.1 (refHead l).2.2.1 (refHead l).2.2.2.1 7200 = true) :
    dateL l = ((refHead l).1, (refHead l).2.1, (refHead l).2.2.1, (refHead l).2.2.2.1, (refHead l).2.2.2.2, true) := by
  have hr := (right_iff _ _ _ _ _).1 h
  revert hr
  unfold refHead dateL
  by_cases h77 : l.head? = some 77
  · rw [if_pos h77, if_pos h77]
    simp only []
    intro hr
    have y1 := refNum_yes (l := l.tail) (m := 2) (hi := 12) (by omega)
    have y2 := dot_yes (l := (refNum l.tail 2 12).2) (by omega)
    have y3 := dot_yes (l := (refDot (refNum l.tail 2 12).2).2) (by omega)
    unfold weekL
    rw [y1]
    simp only []
    rw [y2.1]
    simp only []
    rw [y2.2]
    simp only []
    rw [y3.1]
    simp only []
    rw [y3.2]
    rfl
  · rw [if_neg h77, if_neg h77]
    by_cases h74 : l.head? = some 74
    · rw [if_pos h74, if_pos h74]
      simp only []
      intro hr
      rw [refNum_yes (l := l.tail) (m := 3) (hi := 365) (by omega)]
    · rw [if_neg h74, if_neg h74]
      simp only []
      intro hr
      rw [refNum_yes (l := l) (m := 3) (hi := 365) (by omega)]
theorem head_of (l : List UInt8) (ho : (dateL l).2.2.2.2.2 = true) (h : rightR (dateL l).1 (dateL l).2.1 (dateL l).2.2.1 (dateL l).2.2.2.1 7200 = true) :
    refHead l = ((dateL l).1, (dateL l).2.1, (dateL l).2.2.1, (dateL l).2.2.2.1, (dateL l).2.2.2.2.1) := by
  have hr := (right_iff _ _ _ _ _).1 h
  revert hr ho
  unfold refHead dateL
  by_cases h77 : l.head? = some 77
  · rw [if_pos h77, if_pos h77]
    simp only []
    unfold weekL
    simp only [Bool.and_eq_true]
    intro ho hr
    have z1 := refNum_of (l := l.tail) (m := 2) (hi := 12) ho.1.1.1.1 (by omega)
    rw [z1]
    simp only []
    have z2 := dot_of ho.1.2 ho.1.1.1.2
    rw [z2]
    simp only []
    have z3 := dot_of ho.2 ho.1.1.2
    rw [z3]
  · rw [if_neg h77, if_neg h77]
    by_cases h74 : l.head? = some 74
    · rw [if_pos h74, if_pos h74]
      simp only []
      intro ho hr
      rw [refNum_of (l := l.tail) (m := 3) (hi := 365) ho (by omega)]
    · rw [if_neg h74, if_neg h74]
      simp only []
      intro ho hr
      rw [refNum_of (l := l) (m := 3) (hi := 365) ho (by omega)]
theorem right_sec (K A B C X Y : Int) (hX : -604799 ≤ X ∧ X ≤ 604799) (hY : -604799 ≤ Y ∧ Y ≤ 604799) : rightR K A B C X = rightR K A B C Y := by
  rw [Bool.eq_iff_iff, right_iff, right_iff]
  constructor
  · intro h; exact ⟨hY, h.2⟩
  · intro h; exact ⟨hX, h.2⟩
theorem cum_one (y : Int) : cum y 1 = 0 := by unfold cum cum0; simp
/-- How many days of the weekday there are among the first t ones of the month, if r days are ahead of the first one. -/
def hits (r t : Int) : Int := (t + 6 - r) / 7
def manyW (r B t : Int) : Int := if hits r t ≤ B then hits r t else B
def atW (n r B t : Int) : Int := if manyW r B t = 0 then -1 else n + r + 7 * (manyW r B t - 1)

end Go.Proofs.Ytpekhidbfjlboaa.Pl
end
section
set_option linter.unusedVariables false
set_option linter.unusedSimpArgs false
namespace Go.Proofs.Ytpekhidbfjlboaa.Pl
open Go Go.Proofs.Ytpekhidbfjlboaa.Eng
set_option linter.unusedVariables false

theorem ifT {c : Prop} [Decidable c] {a b : Prop} (h : c) (ha : a) : if c then a else b := by rw [if_pos h]; exact ha
theorem ifF {c : Prop} [Decidable c] {a b : Prop} (h : ¬ c) (hb : b) : if c then a else b := by rw [if_neg h]; exact hb
theorem ifC {c : Prop} [Decidable c] {a b : Prop} (h1 : c → a) (h2 : ¬ c → b) : if c then a else b := by
  by_cases h : c
  · exact ifT h (h1 h)
  · exact ifF h (h2 h)
theorem w64_in {n : Int} (h0 : -9223372036854775808 ≤ n) (h1 : n ≤ 9223372036854775807) : w64 n = n := by
  simp only [w64, IntKind.wrap, IntKind.bits, IntKind.signed]
  try simp
  try omega
theorem bAt_S (l : List UInt8) (i : Nat) : Eng.bAt (S l) i = ((l.getD i 0).toNat : Int) := rfl
theorem bAt0 (c : UInt8) (l : List UInt8) : Eng.bAt (S (c :: l)) 0 = (c.toNat : Int) := rfl
theorem bAt1 (a c : UInt8) (l : List UInt8) : Eng.bAt (S (a :: c :: l)) 1 = (c.toNat : Int) := rfl
theorem bAt2 (a b c : UInt8) (l : List UInt8) : Eng.bAt (S (a :: b :: c :: l)) 2 = (c.toNat : Int) := rfl
/-- A loop that comes to an end: what holds ahead of each round, and a measure. -/
theorem lp_ind {α : Type} {F : (α → Prop) → α → Prop} (μ : α → Nat) (I : α → Prop) (h : ∀ x, I x → ∀ k : α → Prop, (∀ y, I y → μ y < μ x → k y) → F k x) {x : α} (hx : I x) : Eng.lp F x := by
  have key : ∀ n x, I x → μ x < n → itrT F n x := by
    intro n
    induction n with
    | zero => intro x _ hn; omega
    | succ n ih => intro x hx hn; exact h x hx _ fun y hy hlt => ih y hy (by omega)
  exact ⟨μ x + 1, key _ _ hx (Nat.lt_succ_self _)⟩

/-- A loop through given states. -/
theorem lp_nat {α : Type} {F : (α → Prop) → α → Prop} (st : Nat → α) (N : Nat) (h : ∀ n, n ≤ N → ∀ k : α → Prop, (n < N → k (st (n + 1))) → F k (st n)) : Eng.lp F (st 0) := by
  have key : ∀ d n, n + d = N → itrT F (d + 1) (st n) := by
    intro d
    induction d with
    | zero => intro n hn; exact h n (by omega) _ fun hlt => by omega
    | succ d ih => intro n hn; exact h n (by omega) _ fun hlt => ih (n + 1) (by omega)
  exact ⟨N + 1, key N 0 (by omega)⟩

theorem lp_at {α : Type} {F : (α → Prop) → α → Prop} {x : α} (st : Nat → α) (N : Nat) (h0 : x = st 0) (h : ∀ n, n ≤ N → ∀ k : α → Prop, (n < N → k (st (n + 1))) → F k (st n)) : Eng.lp F x := by
  rw [h0]; exact lp_nat st N h
/-- How many of a list's first elements are not such. -/
def nl (q : UInt8 → Bool) (l : List UInt8) : Nat := (l.takeWhile fun c => !q c).length
theorem nl_le (q : UInt8 → Bool) (l : List UInt8) : nl q l ≤ l.length := by unfold nl; exact (List.takeWhile_sublist _).length_le
theorem nl_cons (q : UInt8 → Bool) (c : UInt8) (l : List UInt8) : nl q (c :: l) = if q c = true then 0 else nl q l + 1 := by
  unfold nl; rw [List.takeWhile_cons]; cases q c <;> simp
theorem nl_any (q : UInt8 → Bool) (l : List UInt8) : l.any q = decide (nl q l < l.length) := by
  induction l with
  | nil => rfl
  | cons c l ih =>
    rw [List.any_cons, nl_cons, ih]
    cases q c <;> simp
theorem nl_of (q : UInt8 → Bool) : ∀ (l : List UInt8) (k : Nat), k ≤ l.length → (∀ c ∈ l.take k, q c = false) → (∀ h : k < l.length, q l[k] = true) → nl q l = k
  | [], k, hk, _, _ => by simp at hk; subst hk; rfl
  | c :: l, 0, _, _, h => by
    have h0 : q c = true := h (by simp)
    rw [nl_cons, if_pos h0]
  | c :: l, k + 1, hk, h1, h2 => by
    have hc := h1 c (by simp)
    rw [nl_cons, if_neg (by rw [hc]; simp), nl_of q l k (by simpa using hk) (fun d hd => h1 d (by rw [List.take_succ_cons]; exact .tail _ hd)) (fun h => by have := h2 (by simpa using h); simpa using this)]
theorem nl_spec (q : UInt8 → Bool) : ∀ (l : List UInt8) (j : Nat) (h : j < l.length), (j < nl q l → q l[j] = false) ∧ (j = nl q l → q l[j] = true)
  | [], j, h => by simp at h
  | c :: l, 0, _ => by
    rw [nl_cons]
    cases hq : q c
    · exact ⟨fun _ => hq, fun h => by simp at h⟩
    · exact ⟨fun h => by simp at h, fun _ => hq⟩
  | c :: l, j + 1, h => by
    have ih := nl_spec q l j (by simpa using h)
    rw [nl_cons]
    cases hq : q c
    · simp only [Bool.false_eq_true, if_false, List.getElem_cons_succ]
      exact ⟨fun h => ih.1 (by omega), fun h => ih.2 (by omega)⟩
    · exact ⟨fun h => by simp at h, fun h => by simp at h⟩
theorem indexByte_nl (l : List UInt8) (c : UInt8) : Lib.indexByte l c = if nl (· == c) l < l.length then (nl (· == c) l : Int) else -1 := by
  induction l with
  | nil => rfl
  | cons b l ih =>
    rw [Lib.indexByte, nl_cons, ih]
    cases hb : (b == c)
    · simp only [Bool.false_eq_true, if_false, List.length_cons]
      by_cases h : nl (· == c) l < l.length
      · rw [if_pos h, if_neg (by simp), if_pos (by omega)]; omega
      · rw [if_neg h, if_pos (by simp), if_neg (by omega)]
    · simp
theorem decode_lo (l : List UInt8) (pos : Nat) (h : pos < l.length) (ha : l[pos].toNat < 128) : Utf8.decode (S l) pos = (l[pos].toNat, 1) := decode_ascii (S l) pos (by rw [S_size]; exact h) ha
theorem decode_hi (l : List UInt8) (pos : Nat) (h : pos < l.length) (ha : 128 ≤ l[pos].toNat) : 128 ≤ (Utf8.decode (S l) pos).1 ∧ 1 ≤ (Utf8.decode (S l) pos).2 := decode_high (S l) pos (by rw [S_size]; exact h) ha
theorem S_toList' (l : List UInt8) : (S l).toList = l := S_toList l
end Go.Proofs.Ytpekhidbfjlboaa.Pl
end
section
set_option linter.unusedVariables false
set_option linter.unusedSimpArgs false
namespace Go.Proofs.Ytpekhidbfjlboaa.Pl
open Go Go.Proofs.Ytpekhidbfjlboaa.Eng
set_option linter.unusedVariables false
set_option linter.unusedSimpArgs false

abbrev W32 := BitVec 32
/-- A word, and a byte, as whole numbers. -/
abbrev wi (x : W32) : Int := (x.toNat : Int)
abbrev bi (c : UInt8) : Int := (c.toNat : Int)
abbrev cw (x : W32) : V := .c (.int .u32 (wi x))
abbrev cb (c : UInt8) : V := .c (.int .u8 (bi c))
theorem wu32_in {n : Int} (h0 : 0 ≤ n) (h1 : n ≤ 4294967295) : wu32 n = n := by
  simp only [wu32, IntKind.wrap, IntKind.bits, IntKind.signed]
  try simp
  try omega
theorem wu8_in {n : Int} (h0 : 0 ≤ n) (h1 : n ≤ 255) : wu8 n = n := by
  simp only [wu8, IntKind.wrap, IntKind.bits, IntKind.signed]
  try simp
  try omega
theorem wu64_in {n : Int} (h0 : 0 ≤ n) (h1 : n ≤ 18446744073709551615) : wu64 n = n := by
  simp only [wu64, IntKind.wrap, IntKind.bits, IntKind.signed]
  try simp
  try omega
theorem wu32_nat (n : Nat) : wu32 (n : Int) = wi (BitVec.ofNat 32 n) := by
  simp only [wu32, wi, IntKind.wrap, IntKind.bits, IntKind.signed, BitVec.toNat_ofNat]
  simp
theorem wi_lt (x : W32) : x.toNat < 4294967296 := x.isLt
theorem bi_lt (c : UInt8) : c.toNat < 256 := c.toNat_lt
theorem wu32_wi (x : W32) : wu32 (x.toNat : Int) = wi x := wu32_in (by omega) (by have := wi_lt x; omega)
theorem ofInt_wi (x : W32) : BitVec.ofInt 32 (wi x) = x := by
  apply BitVec.eq_of_toNat_eq
  rw [BitVec.toNat_ofInt]
  have := wi_lt x
  have e : ((2 ^ 32 : Nat) : Int) = 4294967296 := by decide
  rw [e]
  unfold wi
  omega
theorem wi_add (x y : W32) : wu32 (wi x + wi y) = wi (x + y) := by
  rw [show wi x + wi y = ((x.toNat + y.toNat : Nat) : Int) by simp [wi], wu32_nat]
  congr 1
theorem wi_shl (x : W32) (k : Nat) : wu32 (wi x * 2 ^ k) = wi (x <<< k) := by
  rw [show wi x * 2 ^ k = ((x.toNat * 2 ^ k : Nat) : Int) by simp [wi], wu32_nat]
  congr 1
  apply BitVec.eq_of_toNat_eq
  simp [BitVec.toNat_shiftLeft, Nat.shiftLeft_eq]
theorem wi_shr (x : W32) (k : Nat) : Int.fdiv (wi x) (2 ^ k) = wi (x >>> k) := by
  rw [Int.fdiv_eq_ediv_of_nonneg _ (by exact_mod_cast Nat.zero_le _)]
  unfold wi
  rw [BitVec.toNat_ushiftRight, Nat.shiftRight_eq_div_pow]
  exact_mod_cast rfl
def rotl (x : W32) (k : Nat) : W32 := x <<< k ||| x >>> (32 - k)
theorem wi_lit (n : Nat) (h : n < 4294967296) : (n : Int) = wi (BitVec.ofNat 32 n) := by
  unfold wi
  rw [BitVec.toNat_ofNat, Nat.mod_eq_of_lt (by omega)]
theorem wu32_bi (c : UInt8) : wu32 (bi c) = wi (BitVec.ofNat 32 c.toNat) := by rw [wu32_nat]

/-- The words of a block: sixteen, then those that are mixed. -/
def sched : Nat → List W32 → List W32
  | 0, l => l
  | n + 1, l => sched n (l ++ [rotl (l.getD (l.length - 3) 0 ^^^ l.getD (l.length - 8) 0 ^^^ l.getD (l.length - 14) 0 ^^^ l.getD (l.length - 16) 0) 1])
def next (l : List W32) : List W32 := l ++ [rotl (l.getD (l.length - 3) 0 ^^^ l.getD (l.length - 8) 0 ^^^ l.getD (l.length - 14) 0 ^^^ l.getD (l.length - 16) 0) 1]
def word (b : List UInt8) (i : Nat) : W32 := b.foldl (fun w c => w <<< 8 ||| BitVec.ofNat 32 c.toNat) 0
def wordAt (b : List UInt8) (i : Nat) : W32 := word ((b.drop (4 * i)).take 4) 0
def first (b : List UInt8) (n : Nat) : List W32 := (List.range n).map (wordAt b)
def wordsN (b : List UInt8) : Nat → List W32
  | 0 => first b 16
  | n + 1 => next (wordsN b n)
theorem wordsN_len (b : List UInt8) (n : Nat) : (wordsN b n).length = 16 + n := by
  induction n with
  | zero => simp [wordsN, first]
  | succ n ih => simp [wordsN, next, ih]; omega
structure St5 where
  a : W32
  b : W32
  c : W32
  d : W32
  e : W32
def fAt (i : Nat) (b c d : W32) : W32 := if i < 20 then d ^^^ (b &&& (c ^^^ d)) else if i < 40 then b ^^^ c ^^^ d else if i < 60 then (b &&& c) ||| (d &&& (b ||| c)) else b ^^^ c ^^^ d
def kAt (i : Nat) : W32 := if i < 20 then 1518500249#32 else if i < 40 then 1859775393#32 else if i < 60 then 2400959708#32 else 3395469782#32
def stepS (s : St5) (f k w : W32) : St5 := ⟨rotl s.a 5 + f + s.e + k + w, s.a, rotl s.b 30, s.c, s.d⟩
def roundsN (ws : List W32) (s : St5) : Nat → St5
  | 0 => s
  | n + 1 => let t := roundsN ws s n; stepS t (fAt n t.b t.c t.d) (kAt n) (ws.getD n 0)
def addS (s t : St5) : St5 := ⟨s.a + t.a, s.b + t.b, s.c + t.c, s.d + t.d, s.e + t.e⟩
def blockL (s : St5) (b : List UInt8) : St5 := addS (roundsN (wordsN b 64) s 80) s
def blocksN (l : List UInt8) (s : St5) : Nat → St5
  | 0 => s
  | n + 1 => blockL (blocksN l s n) ((l.drop (64 * n)).take 64)
def be64 (n : Nat) : List UInt8 := (List.range 8).map fun i => UInt8.ofNat (n / 2 ^ (8 * (7 - i)))
def padL (m : List UInt8) : List UInt8 := m ++ [128] ++ List.replicate ((184 - (m.length + 1) % 64) % 64) 0 ++ be64 (8 * m.length)
def s0 : St5 := ⟨1732584193#32, 4023233417#32, 2562383102#32, 271733878#32, 3285377520#32⟩
def St5.at (s : St5) (i : Nat) : W32 := match i with | 0 => s.a | 1 => s.b | 2 => s.c | 3 => s.d | _ => s.e
def sumS (m : List UInt8) : St5 := blocksN (padL m) s0 ((padL m).length / 64)
def digest (m : List UInt8) (i : Nat) : UInt8 := UInt8.ofNat (((sumS m).at (i / 4)).toNat / 2 ^ (24 - 8 * (i % 4)))
theorem padL_len (m : List UInt8) : (padL m).length % 64 = 0 := by
  simp [padL, be64]
  omega
/-- Words of a digest, and its digits. -/
def wordsOf (d : Nat → UInt8) (j : Nat) : W32 := word [d (4 * j), d (4 * j + 1), d (4 * j + 2), d (4 * j + 3)] 0
def hexC (n : Nat) : UInt8 := [48, 49, 50, 51, 52, 53, 54, 55, 56, 57, 97, 98, 99, 100, 101, 102].getD n 0
def hexN (d : Nat → UInt8) : Nat → List UInt8
  | 0 => []
  | n + 1 => hexN d n ++ [hexC ((d n).toNat / 16), hexC ((d n).toNat % 16)]

theorem wordsN_get (b : List UInt8) (n i : Nat) (h : i < 16 + n) : ∀ m, n ≤ m → (wordsN b m).getD i 0 = (wordsN b n).getD i 0 := by
  intro m
  induction m with
  | zero => intro hm; rw [show n = 0 by omega]
  | succ m ih =>
    intro hm
    by_cases e : n = m + 1
    · rw [e]
    · rw [← ih (by omega)]
      have hl : i < (wordsN b m).length := by rw [wordsN_len]; omega
      simp only [wordsN, next, List.getD_eq_getElem?_getD, List.getElem?_append_left hl]
theorem first_get (b : List UInt8) (n i : Nat) (h : i < n) : (first b n).getD i 0 = wordAt b i := by
  simp [first, List.getD_eq_getElem?_getD, h]

/-- Arrays in memory: one element, its cells plain. -/
def agL (k : IntKind) (n : Nat) (f : Nat → Int) : List V := [.agg ((List.range n).map fun i => .c (.int k (f i)))]
def updF (f : Nat → Int) (i : Nat) (x : Int) : Nat → Int := fun j => if j = i then x else f j
theorem agL_get {k : IntKind} {n : Nat} {f : Nat → Int} {i : Nat} (h : i < n) : getC (agL k n f) 0 i = some (.c (.int k (f i))) := by
  simp [agL, getC, V.cells, h]
theorem asI {k : IntKind} {n : Nat} {f : Nat → Int} {i : Nat} (h : i < n) {F : Prop} {K : Int → Prop} (hk : K (f i)) : Eng.asInt k (getC (agL k n f) 0 i) F K := by
  rw [agL_get h]
  simpa [Eng.asInt] using hk
theorem asL {k : IntKind} {n : Nat} {f : Nat → Int} {i : Nat} (h : i < n) {F : Prop} {K : Int → Prop} (hk : K (f i)) : Eng.asInt k (((List.range n).map fun i => V.c (.int k (f i)))[i]?) F K := by
  simp [Eng.asInt, h, hk]
theorem agL_set {k : IntKind} {n : Nat} {f : Nat → Int} {i : Nat} {x : Int} (h : i < n) : List.set (agL k n f) 0 (setE (List.getD (agL k n f) 0 V.bad) i [.c (.int k x)]) = agL k n (updF f i x) := by
  simp only [agL, List.getD_cons_zero, setE, setL, List.set_cons_zero]
  congr 2
  apply List.ext_getElem?
  intro j
  rw [List.getElem?_set]
  by_cases hj : j < n
  · by_cases e : i = j
    · subst e; simp [updF, h]
    · simp [e, hj, updF, Ne.symm e]
  · have : ¬ i = j := by omega
    simp [this, hj]
theorem agL_len {k : IntKind} {n : Nat} {f : Nat → Int} : (agL k n f).length = 1 := rfl
theorem agL_congr {k : IntKind} {n : Nat} {f g : Nat → Int} (h : ∀ i, i < n → f i = g i) : agL k n f = agL k n g := by
  unfold agL
  congr 2
  apply List.map_congr_left
  intro i hi
  rw [h i (List.mem_range.1 hi)]
end Go.Proofs.Ytpekhidbfjlboaa.Pl
end
section
set_option linter.unusedVariables false
set_option linter.unusedSimpArgs false
namespace Go.Proofs.Ytpekhidbfjlboaa
open Go Go.Proofs.Ytpekhidbfjlboaa.Eng Go.Proofs.Ytpekhidbfjlboaa.Pl
set_option linter.unusedVariables false
set_option linter.unusedSimpArgs false

theorem wi_or (x y : W32) : wu32 ((BitVec.toNat (BitVec.ofInt 32 (wi x) ||| BitVec.ofInt 32 (wi y)) : Nat) : Int) = wi (x ||| y) := by rw [ofInt_wi, ofInt_wi, wu32_wi]
theorem wi_and (x y : W32) : wu32 ((BitVec.toNat (BitVec.ofInt 32 (wi x) &&& BitVec.ofInt 32 (wi y)) : Nat) : Int) = wi (x &&& y) := by rw [ofInt_wi, ofInt_wi, wu32_wi]
theorem wi_xor (x y : W32) : wu32 ((BitVec.toNat (BitVec.ofInt 32 (wi x) ^^^ BitVec.ofInt 32 (wi y)) : Nat) : Int) = wi (x ^^^ y) := by rw [ofInt_wi, ofInt_wi, wu32_wi]
theorem sRot (x : W32) (k : Nat) (h : k < 32) {K} (hk : K (wi (rotl x k))) : Xmath_bits_RotateLeft32 (wi x) (k : Int) K := by
  unfold Xmath_bits_RotateLeft32 Ymath_bits_RotateLeft32
  have e1 : wu64 ((BitVec.toNat (BitVec.ofInt 64 (wu64 (k : Int)) &&& BitVec.ofInt 64 31) : Nat) : Int) = (k : Int) := by
    rw [wu64_in (n := (k : Int)) (by omega) (by omega)]
    have : (BitVec.ofInt 64 (k : Int) &&& BitVec.ofInt 64 31) = BitVec.ofNat 64 k := by
      have : ∀ k : Fin 32, (BitVec.ofInt 64 ((k.val : Nat) : Int) &&& BitVec.ofInt 64 31) = BitVec.ofNat 64 k.val := by decide
      exact this ⟨k, h⟩
    rw [this, BitVec.toNat_ofNat, Nat.mod_eq_of_lt (by omega), wu64_in (by omega) (by omega)]
  rw [e1]
  have e2 : Min.min (Int.toNat (k : Int)) 32 = k := by rw [Int.toNat_natCast]; omega
  have e3 : wu64 (32 - (k : Int)) = ((32 - k : Nat) : Int) := by rw [wu64_in (by omega) (by omega)]; omega
  have e4 : Min.min (Int.toNat ((32 - k : Nat) : Int)) 32 = 32 - k := by rw [Int.toNat_natCast]; omega
  simp only [lt, e2, e3]
  refine ifF (by omega) ?_
  rw [e4, wi_shl, wi_shr, wi_or]
  exact hk
theorem sStep (s : St5) (f k w : W32) {K : Int → Int → Int → Int → Int → Prop} (h : K (wi (stepS s f k w).a) (wi (stepS s f k w).b) (wi (stepS s f k w).c) (wi (stepS s f k w).d) (wi (stepS s f k w).e)) :
    Xsha_state_step (wi f) (wi k) (wi w) (wi s.a) (wi s.b) (wi s.c) (wi s.d) (wi s.e) K := by
  unfold Xsha_state_step Ysha_state_step
  refine sRot s.a 5 (by omega) ?_
  simp only [lt, wi_add]
  exact sRot s.b 30 (by omega) h
/-- The third loop of a block: its rounds. -/
theorem sRounds (ws : List W32) (hl : ws.length = 80) (s : St5) {K : Int → Int → Int → Int → Int → Prop} (a1 a2 a3 a4 a5 k6 k16) (l : List V) (hw : ∀ i, i < 80 → l[i]? = some (cw (ws.getD i 0)))
    (h : K (wi (addS (roundsN ws s 80) s).a) (wi (addS (roundsN ws s 80) s).b) (wi (addS (roundsN ws s 80) s).c) (wi (addS (roundsN ws s 80) s).d) (wi (addS (roundsN ws s 80) s).e)) :
    lp (Lsha_state_block_3 Xsha_state_step K a1 a2 a3 a4 a5 k6 k16) (((), (), l, 0, ()), (wi s.a, wi s.b, wi s.c, wi s.d, wi s.e, ()), (wi s.a, wi s.b, wi s.c, wi s.d, wi s.e, ()), ()) := by
  refine lp_at (fun j => (((), (), l, (j : Int), ()), (wi (roundsN ws s j).a, wi (roundsN ws s j).b, wi (roundsN ws s j).c, wi (roundsN ws s j).d, wi (roundsN ws s j).e, ()), (wi s.a, wi s.b, wi s.c, wi s.d, wi s.e, ()), ())) 80 rfl fun n hn k hk => ?_
  unfold Lsha_state_block_3
  simp only [decide_eq_true_eq]
  by_cases e : n = 80
  · subst e
    refine ifF (by omega) ?_
    simp only [wi_add]
    exact h
  · have hn' : n < 80 := by omega
    have hk' := hk hn'
    refine ifT (by omega) (ifT (by omega) ?_)
    rw [Int.toNat_natCast, Nat.mul_one, hw n hn']
    simp only [Eng.asInt, if_true, lt, wi_xor, wi_and, wi_or]
    have ed : w64 (Int.tdiv (n : Int) 20) = ((n / 20 : Nat) : Int) := by
      rw [Int.tdiv_eq_ediv_of_nonneg (by omega), w64_in (by omega) (by omega)]; omega
    have e1 : w64 ((n : Int) + 1) = ((n + 1 : Nat) : Int) := by rw [w64_in (by omega) (by omega)]; omega
    simp only [ed, e1, beq_iff_eq]
    have q1 : (1518500249 : Int) = wi 1518500249#32 := by decide
    have q2 : (1859775393 : Int) = wi 1859775393#32 := by decide
    have q3 : (2400959708 : Int) = wi 2400959708#32 := by decide
    have q4 : (3395469782 : Int) = wi 3395469782#32 := by decide
    rw [q1, q2, q3, q4]
    have hs : roundsN ws s (n + 1) = stepS (roundsN ws s n) (fAt n (roundsN ws s n).b (roundsN ws s n).c (roundsN ws s n).d) (kAt n) (ws.getD n 0) := rfl
    simp only [hs] at hk'
    refine ifC (fun h0 => ?_) fun h0 => ifC (fun h1 => ?_) fun h1 => ifC (fun h2 => ?_) fun h2 => ?_
    · have : n < 20 := by omega
      refine sStep (roundsN ws s n) _ _ _ ?_
      simp only [fAt, kAt, if_pos this] at hk'; exact hk'
    · have g0 : ¬ n < 20 := by omega
      have g1 : n < 40 := by omega
      refine sStep (roundsN ws s n) _ _ _ ?_
      simp only [fAt, kAt, if_neg g0, if_pos g1] at hk'; exact hk'
    · have g0 : ¬ n < 20 := by omega
      have g1 : ¬ n < 40 := by omega
      have g2 : n < 60 := by omega
      refine sStep (roundsN ws s n) _ _ _ ?_
      simp only [fAt, kAt, if_neg g0, if_neg g1, if_pos g2] at hk'; exact hk'
    · have g0 : ¬ n < 20 := by omega
      have g1 : ¬ n < 40 := by omega
      have g2 : ¬ n < 60 := by omega
      refine sStep (roundsN ws s n) _ _ _ ?_
      simp only [fAt, kAt, if_neg g0, if_neg g1, if_neg g2] at hk'; exact hk'
end Go.Proofs.Ytpekhidbfjlboaa
end
section
set_option linter.unusedVariables false
set_option linter.unusedSimpArgs false
namespace Go.Proofs.Ytpekhidbfjlboaa
open Go Go.Proofs.Ytpekhidbfjlboaa.Eng Go.Proofs.Ytpekhidbfjlboaa.Pl
set_option linter.unusedVariables false
set_option linter.unusedSimpArgs false

/-- The words that are there, and naught behind them. -/
def wf (l : List W32) (i : Nat) : Int := wi (l.getD i 0)
theorem wf_next (l : List W32) (x : W32) : updF (wf l) l.length (wi x) = wf (l ++ [x]) := by
  funext j
  unfold updF wf
  by_cases h : j = l.length
  · subst h; simp [List.getD_eq_getElem?_getD]
  · rw [if_neg h]
    by_cases h' : j < l.length
    · simp only [List.getD_eq_getElem?_getD, List.getElem?_append_left h']
    · simp only [List.getD_eq_getElem?_getD]
      rw [List.getElem?_eq_none (by omega), List.getElem?_eq_none (by simp; omega)]
theorem sMix (b : List UInt8) (s : St5) {K : Int → Int → Int → Int → Int → Prop} (a1 a2 a3 a4 a5 k6)
    (h : K (wi (addS (roundsN (wordsN b 64) s 80) s).a) (wi (addS (roundsN (wordsN b 64) s 80) s).b) (wi (addS (roundsN (wordsN b 64) s 80) s).c) (wi (addS (roundsN (wordsN b 64) s 80) s).d) (wi (addS (roundsN (wordsN b 64) s 80) s).e)) :
    lp (Lsha_state_block_2 Xmath_bits_RotateLeft32 Xsha_state_step K a1 a2 a3 a4 a5 k6) (((), (), 16, ()), (wi s.a, wi s.b, wi s.c, wi s.d, wi s.e, ()), agL .u32 80 (wf (first b 16)), ()) := by
  refine lp_at (fun j => (((), (), ((16 + j : Nat) : Int), ()), (wi s.a, wi s.b, wi s.c, wi s.d, wi s.e, ()), agL .u32 80 (wf (wordsN b j)), ())) 64 rfl fun n hn k hk => ?_
  unfold Lsha_state_block_2
  simp only [decide_eq_true_eq]
  by_cases e : n = 64
  · subst e
    refine ifF (by omega) ?_
    simp only [agL, List.getElem?_cons_zero, Eng.asAgg]
    refine ifT ⟨by simp, by simp [isC, Value.oneCell']⟩ ?_
    exact sRounds (wordsN b 64) (by rw [wordsN_len]) s _ _ _ _ _ _ _ _ (fun i hi => by simp [hi, wf]) h
  · have hn' : n < 64 := by omega
    have hk' := hk hn'
    have hl := wordsN_len b n
    have g : ∀ q : Nat, q ≤ 16 → w64 (((16 + n : Nat) : Int) - (q : Int)) = ((16 + n - q : Nat) : Int) := fun q hq => by rw [w64_in (by omega) (by omega)]; omega
    have g3 := g 3 (by omega)
    have g8 := g 8 (by omega)
    have g14 := g 14 (by omega)
    have g16 := g 16 (by omega)
    simp only [show ((3 : Nat) : Int) = 3 from rfl, show ((8 : Nat) : Int) = 8 from rfl, show ((14 : Nat) : Int) = 14 from rfl, show ((16 : Nat) : Int) = 16 from rfl] at g3 g8 g14 g16
    rw [g3, g8, g14, g16]
    simp only [Int.toNat_natCast, Nat.mul_one, Nat.zero_add]
    refine ifT (by omega) (ifT (by omega) (asI (by omega) (ifT (by omega) (asI (by omega) (ifT (by omega) (asI (by omega) ?_))))))
    simp only [lt, wf, wi_xor]
    refine ifT (by omega) (asI (by omega) ?_)
    simp only [wf, wi_xor]
    refine sRot _ 1 (by omega) ?_
    refine ifT (by omega) (ifT (Nat.zero_lt_one) (ifT (by show 16 + n + 1 ≤ 80; omega) ?_))
    have es := @agL_set .u32 80 (wf (wordsN b n)) (16 + n) (wi (rotl ((wordsN b n).getD (16 + n - 3) 0 ^^^ (wordsN b n).getD (16 + n - 8) 0 ^^^ (wordsN b n).getD (16 + n - 14) 0 ^^^ (wordsN b n).getD (16 + n - 16) 0) 1)) (by omega)
    have e2 : w64 (((16 + n : Nat) : Int) + 1) = ((16 + (n + 1) : Nat) : Int) := by rw [w64_in (by omega) (by omega)]; omega
    have en : wf (wordsN b (n + 1)) = updF (wf (wordsN b n)) (16 + n) (wi (rotl ((wordsN b n).getD (16 + n - 3) 0 ^^^ (wordsN b n).getD (16 + n - 8) 0 ^^^ (wordsN b n).getD (16 + n - 14) 0 ^^^ (wordsN b n).getD (16 + n - 16) 0) 1)) := by
      rw [← hl, wf_next]; rfl
    rw [en] at hk'
    rw [e2]
    refine (congrArg k ?_).mp hk'
    rw [← es]
/-- The bytes of a slice. -/
def BV (l : List UInt8) : List V := l.map cb
theorem BV_get (l : List UInt8) (i : Nat) (h : i < l.length) : getC (BV l) i 0 = some (cb l[i]) := by
  simp [getC, BV, V.cells, h]
theorem asB {l : List UInt8} {i : Nat} (h : i < l.length) {F : Prop} {K : Int → Prop} (hk : K (bi l[i])) : Eng.asInt .u8 (getC (BV l) i 0) F K := by
  rw [BV_get l i h]; simpa [Eng.asInt] using hk
theorem BV_cut (l : List UInt8) (a n : Nat) : cutL (BV l) a n = BV ((l.drop a).take n) := by simp [cutL, BV]
theorem BV_len (l : List UInt8) : (BV l).length = l.length := by simp [BV]
theorem word_snoc (l : List UInt8) (c : UInt8) : word (l ++ [c]) 0 = (word l 0 <<< 8 ||| BitVec.ofNat 32 c.toNat) := by simp [word]
theorem sFour (b : List UInt8) (i : Nat) (hi : i < 16) (hb : b.length = 64) (X) {K : Int → Int → Int → Int → Int → Prop} (a1 a2 a3 a4 a5) (k6 : Q13 → Prop)
    (h : k6 (((), BV b, (), ((i + 1 : Nat) : Int), ()), X, agL .u32 80 (wf (first b (i + 1))), ())) :
    lp (Lsha_state_block_1 K a1 a2 a3 a4 a5 k6) (((), BV b, (), (i : Int), (i : Int), BV ((b.drop (4 * i)).take 4), 4, 0, ()), X, agL .u32 80 (wf (first b i)), ()) := by
  have hl : ((b.drop (4 * i)).take 4).length = 4 := by simp; omega
  have hfl : (first b i).length = i := by simp [first]
  refine lp_at (fun j => (((), BV b, (), (i : Int), (i : Int), BV ((b.drop (4 * i)).take 4), 4, (j : Int), ()), X, agL .u32 80 (updF (wf (first b i)) i (wi (word (((b.drop (4 * i)).take 4).take j) 0))), ())) 4 ?_ fun n hn k hk => ?_
  · have : updF (wf (first b i)) i (wi (word (((b.drop (4 * i)).take 4).take 0) 0)) = wf (first b i) := by
      funext j
      unfold updF
      split
      · rename_i e; subst e
        unfold wf
        rw [List.getD_eq_getElem?_getD, List.getElem?_eq_none (by omega)]
        rfl
      · rfl
    rw [this]; rfl
  · unfold Lsha_state_block_1
    simp only [decide_eq_true_eq]
    by_cases e : n = 4
    · subst e
      refine ifF (by omega) ?_
      have e1 : w64 ((i : Int) + 1) = ((i + 1 : Nat) : Int) := by rw [w64_in (by omega) (by omega)]; omega
      have e2 : updF (wf (first b i)) i (wi (word (((b.drop (4 * i)).take 4).take 4) 0)) = wf (first b (i + 1)) := by
        have := wf_next (first b i) (wordAt b i)
        rw [hfl] at this
        rw [List.take_of_length_le (by omega)]
        refine this.trans ?_
        congr 1
        simp [first, List.range_succ]
      rw [e1, e2]
      exact h
    · have hn' : n < 4 := by omega
      have hk' := hk hn'
      rw [BV_len, hl]
      simp only [Int.toNat_natCast, Nat.mul_one, Nat.zero_add]
      refine ifT (by omega) (ifT (by omega) (asB (by omega) (ifT (by omega) (asI (by omega) ?_))))
      have eu : updF (wf (first b i)) i (wi (word (((b.drop (4 * i)).take 4).take n) 0)) i = wi (word (((b.drop (4 * i)).take 4).take n) 0) := by simp [updF]
      rw [eu]
      have e8 := wi_shl (word (((b.drop (4 * i)).take 4).take n) 0) 8
      rw [show ((2 : Int) ^ 8) = 256 from rfl] at e8
      simp only [lt, e8, wu32_bi, wi_or]
      refine ifT (by omega) (ifT (Nat.zero_lt_one) (ifT (by show i + 1 ≤ 80; omega) ?_))
      have e1 : w64 ((n : Int) + 1) = ((n + 1 : Nat) : Int) := by rw [w64_in (by omega) (by omega)]; omega
      rw [e1]
      have et : ((b.drop (4 * i)).take 4).take (n + 1) = ((b.drop (4 * i)).take 4).take n ++ [((b.drop (4 * i)).take 4)[n]] := by
        rw [List.take_succ_eq_append_getElem (by omega)]
      rw [et, word_snoc] at hk'
      refine (congrArg k ?_).mp hk'
      have es := @agL_set .u32 80 (updF (wf (first b i)) i (wi (word (((b.drop (4 * i)).take 4).take n) 0))) i (wi (word (((b.drop (4 * i)).take 4).take n) 0 <<< 8 ||| BitVec.ofNat 32 (((b.drop (4 * i)).take 4)[n]).toNat)) (by omega)
      have eq : ∀ (f : Nat → Int) (x y : Int), updF (updF f i x) i y = updF f i y := fun f x y => by
        funext j; unfold updF; split <;> rfl
      rw [eq] at es
      rw [← es]
theorem sBlock (b : List UInt8) (hb : b.length = 64) (s : St5) {K : Int → Int → Int → Int → Int → Prop} (h : K (wi (blockL s b).a) (wi (blockL s b).b) (wi (blockL s b).c) (wi (blockL s b).d) (wi (blockL s b).e)) :
    Xsha_state_block (BV b) (wi s.a) (wi s.b) (wi s.c) (wi s.d) (wi s.e) K := by
  unfold Xsha_state_block Ysha_state_block
  refine lp_at (fun j => (((), BV b, (), (j : Int), ()), (wi s.a, wi s.b, wi s.c, wi s.d, wi s.e, ()), agL .u32 80 (wf (first b j)), ())) 16 rfl fun n hn k hk => ?_
  unfold Lsha_state_block_0
  simp only [decide_eq_true_eq]
  by_cases e : n = 16
  · subst e
    refine ifF (by omega) ?_
    exact sMix b s _ _ _ _ _ _ h
  · have hn' : n < 16 := by omega
    have hk' := hk hn'
    have e4 : w64 (4 * (n : Int)) = ((4 * n : Nat) : Int) := by rw [w64_in (by omega) (by omega)]; omega
    have e5 : w64 (((4 * n : Nat) : Int) + 4) = ((4 * n + 4 : Nat) : Int) := by rw [w64_in (by omega) (by omega)]; omega
    rw [e4, e5, BV_len, hb]
    simp only [lt, Int.toNat_natCast, BV_cut, show 4 * n + 4 - 4 * n = 4 by omega]
    refine ifT (by omega) (ifT (by omega) (ifT (by omega) ?_))
    have hl : ((b.drop (4 * n)).take 4).length = 4 := by simp; omega
    rw [BV_len, hl]
    exact sFour b n hn' hb _ _ _ _ _ _ _ hk'
end Go.Proofs.Ytpekhidbfjlboaa
end
section
set_option linter.unusedVariables false
set_option linter.unusedSimpArgs false
namespace Go.Proofs.Ytpekhidbfjlboaa
open Go Go.Proofs.Ytpekhidbfjlboaa.Eng Go.Proofs.Ytpekhidbfjlboaa.Pl
set_option linter.unusedVariables false
set_option linter.unusedSimpArgs false
set_option maxRecDepth 100000
set_option maxHeartbeats 2000000

theorem room (n : Nat) (h : n ≤ 100000000) : roomOk n 1 = true := by
  unfold roomOk
  simp only [decide_eq_true_eq]
  omega
theorem ifR (n : Nat) {a b : Prop} (h : n ≤ 100000000) (ha : a) : if roomOk n 1 = true then a else b := by rw [if_pos (room n h)]; exact ha
/-- Parts, as values. -/
def Parts (v : List V) (ps : List (List UInt8)) : Prop := v.length = ps.length ∧ ∀ (i : Nat) (h : i < ps.length), ∃ es fl, v[i]? = some (.sl es fl (BV ps[i])) ∧ (es = 1 ∨ ps[i] = [])
theorem asPart {v : List V} {ps : List (List UInt8)} (hp : Parts v ps) {i : Nat} (h : i < ps.length) {F : Prop} {K : Bool → List V → Prop} (hk : ∀ fl, K fl (BV ps[i])) : Eng.asSl 1 (getC v i 0) F K := by
  obtain ⟨es, fl, h1, h2⟩ := hp.2 i h
  have : getC v i 0 = some (.sl es fl (BV ps[i])) := by simp [getC, h1, V.cells]
  rw [this]
  unfold Eng.asSl
  have hb : (Nat.beq 1 es || (BV ps[i]).isEmpty) = true := by
    rcases h2 with rfl | h2
    · rfl
    · rw [h2]; simp [BV]
  simp only [hb, cond_true]
  exact hk fl
theorem sGrow (n : Nat) (h : n ≤ 1000000) {K : List V → Bool → Bool → Prop} (hk : ∀ frz, K [] true frz) : Xslices_Grow___byte_byte_ (n : Int) K := by
  unfold Xslices_Grow___byte_byte_ Yslices_Grow___byte_byte_
  simp only [decide_eq_true_eq]
  have e : w64 ((n : Int) - 0) = (n : Int) := by rw [w64_in (by omega) (by omega)]; omega
  rw [e]
  refine ifF (by omega) (ifC (fun h0 => ?_) fun h0 => hk _)
  refine ifT (by omega) (ifR _ ?_ (hk _))
  rw [List.length_replicate, Int.toNat_natCast]
  omega
theorem flat_len (ps : List (List UInt8)) (j : Nat) (h : j < ps.length) : (ps.take (j + 1)).flatten = (ps.take j).flatten ++ ps[j] := by
  rw [List.take_succ_eq_append_getElem h, List.flatten_append, List.flatten_singleton]
theorem flat_le (ps : List (List UInt8)) (j : Nat) : (ps.take j).flatten.length ≤ ps.flatten.length := by
  conv => rhs; rw [← List.take_append_drop j ps, List.flatten_append, List.length_append]
  omega
theorem sConcat (v : List V) (ps : List (List UInt8)) (hp : Parts v ps) (hn : ps.length ≤ 1000000) (hl : ps.flatten.length ≤ 1000000) {K : List V → Bool → Bool → Prop} (hk : ∀ frz, K (BV ps.flatten) true frz) :
    Xslices_Concat___byte_byte_ v K := by
  unfold Xslices_Concat___byte_byte_ Yslices_Concat___byte_byte_
  rw [hp.1]
  refine lp_at (fun j => ((v, (), ((ps.take j).flatten.length : Int), v, (ps.length : Int), (j : Int), ()), ())) ps.length rfl fun n hn' k hkk => ?_
  unfold Lslices_Concat___byte_byte__0
  simp only [decide_eq_true_eq]
  by_cases e : n = ps.length
  · refine ifF (by omega) ?_
    refine sGrow _ (Nat.le_trans (flat_le _ _) hl) fun frz => ?_
    rw [hp.1]
    refine lp_at (fun j => (((), (), v, (ps.length : Int), (j : Int), ()), (BV (ps.take j).flatten, true, frz), ())) ps.length rfl fun m hm k hkk => ?_
    unfold Lslices_Concat___byte_byte__1
    simp only [decide_eq_true_eq]
    by_cases e : m = ps.length
    · refine ifF (by omega) ?_
      subst e
      rw [List.take_length]; exact hk frz
    · have hm' : m < ps.length := by omega
      rw [hp.1, Int.toNat_natCast]
      refine ifT (by omega) (ifT (by omega) (asPart hp hm' fun fl => ifT trivial (ifR _ ?_ ?_)))
      · rw [BV_len, BV_len]
        have := flat_len ps m hm'
        have h2 := flat_le ps (m + 1)
        rw [this, List.length_append] at h2
        omega
      · have hk' := hkk hm'
        rw [flat_len ps m hm'] at hk'
        have e1 : w64 ((m : Int) + 1) = ((m + 1 : Nat) : Int) := by rw [w64_in (by omega) (by omega)]; omega
        rw [e1]
        have : BV (ps.take m).flatten ++ BV ps[m] = BV ((ps.take m).flatten ++ ps[m]) := by simp [BV]
        rw [this]; exact hk'
  · have hn2 : n < ps.length := by omega
    rw [hp.1, Int.toNat_natCast]
    refine ifT (by omega) (ifT (by omega) (asPart hp hn2 fun fl => ?_))
    have hk' := hkk hn2
    have h2 := flat_le ps (n + 1)
    rw [flat_len ps n hn2, List.length_append] at hk' h2
    rw [BV_len]
    have e0 : w64 (((ps.take n).flatten.length : Int) + (ps[n].length : Int)) = (((ps.take n).flatten.length + ps[n].length : Nat) : Int) := by rw [w64_in (by omega) (by omega)]; omega
    have e1 : w64 ((n : Int) + 1) = ((n + 1 : Nat) : Int) := by rw [w64_in (by omega) (by omega)]; omega
    rw [e0, e1]
    exact ifF (by omega) hk'

abbrev t20 (u : Nat → UInt8) : Q24 := (bi (u 0), bi (u 1), bi (u 2), bi (u 3), bi (u 4), bi (u 5), bi (u 6), bi (u 7), bi (u 8), bi (u 9), bi (u 10), bi (u 11), bi (u 12), bi (u 13), bi (u 14), bi (u 15), bi (u 16), bi (u 17), bi (u 18), bi (u 19), ())
def part (u : Nat → UInt8) (i j : Nat) : Int := if j < i then bi (u j) else 0
theorem part_next (u : Nat → UInt8) (i : Nat) : updF (part u i) i (bi (u i)) = part u (i + 1) := by
  funext j
  unfold updF part
  by_cases h : j = i
  · subst h; simp
  · rw [if_neg h]
    by_cases h2 : j < i
    · rw [if_pos h2, if_pos (by omega)]
    · rw [if_neg h2, if_neg (by omega)]
theorem as5 (s : St5) {i : Nat} (h : i < 5) {F : Prop} {K : Int → Prop} (hk : K (wi (s.at i))) : Eng.asInt .u32 ([cw s.a, cw s.b, cw s.c, cw s.d, cw s.e][i]?) F K := by
  have : [cw s.a, cw s.b, cw s.c, cw s.d, cw s.e][i]? = some (cw (s.at i)) := by
    match i, h with
    | 0, _ => rfl
    | 1, _ => rfl
    | 2, _ => rfl
    | 3, _ => rfl
    | 4, _ => rfl
  rw [this]; simpa [Eng.asInt] using hk
theorem wu8_shr (x : Nat) (k : Nat) (hx : x < 18446744073709551616) : wu8 (Int.fdiv (x : Int) (2 ^ k)) = bi (UInt8.ofNat (x / 2 ^ k)) := by
  rw [Int.fdiv_eq_ediv_of_nonneg _ (by exact_mod_cast Nat.zero_le _)]
  have : ((x : Int) / 2 ^ k) = ((x / 2 ^ k : Nat) : Int) := by exact_mod_cast rfl
  rw [this]
  unfold bi
  rw [UInt8.toNat_ofNat']
  simp only [wu8, IntKind.wrap, IntKind.bits, IntKind.signed]
  simp
theorem set20 (f : Nat → Int) : List.set (agL .u8 20 f) 0 (setE (List.getD (agL .u8 20 f) 0 V.bad) 0 [V.c (.int .u8 (f 0)), V.c (.int .u8 (f 1)), V.c (.int .u8 (f 2)), V.c (.int .u8 (f 3)), V.c (.int .u8 (f 4)), V.c (.int .u8 (f 5)), V.c (.int .u8 (f 6)), V.c (.int .u8 (f 7)), V.c (.int .u8 (f 8)), V.c (.int .u8 (f 9)), V.c (.int .u8 (f 10)), V.c (.int .u8 (f 11)), V.c (.int .u8 (f 12)), V.c (.int .u8 (f 13)), V.c (.int .u8 (f 14)), V.c (.int .u8 (f 15)), V.c (.int .u8 (f 16)), V.c (.int .u8 (f 17)), V.c (.int .u8 (f 18)), V.c (.int .u8 (f 19))]) = agL .u8 20 f := by kernel_rfl
theorem asIe {k : IntKind} {n : Nat} {f : Nat → Int} (i : Nat) (h : Nat.blt i n = true) {F : Prop} {K : Int → Prop} : Eng.asInt k (getC (agL k n f) 0 i) F K = K (f i) := by
  have h' : i < n := by rw [Nat.blt_eq] at h; exact h
  rw [agL_get h']
  simp [Eng.asInt]
set_option maxHeartbeats 2000000 in
theorem read20 (u : Nat → UInt8) (f : Nat → Int) (hf : ∀ i, i < 20 → f i = bi (u i)) {K : Q24 → Prop} : (Eng.asInt IntKind.u8 (Eng.getC (agL .u8 20 f) (0 : Nat) (0 : Nat)) False fun m0 =>
    Eng.asInt IntKind.u8 (Eng.getC (agL .u8 20 f) (0 : Nat) (1 : Nat)) False fun m1 =>
    Eng.asInt IntKind.u8 (Eng.getC (agL .u8 20 f) (0 : Nat) (2 : Nat)) False fun m2 =>
    Eng.asInt IntKind.u8 (Eng.getC (agL .u8 20 f) (0 : Nat) (3 : Nat)) False fun m3 =>
    Eng.asInt IntKind.u8 (Eng.getC (agL .u8 20 f) (0 : Nat) (4 : Nat)) False fun m4 =>
    Eng.asInt IntKind.u8 (Eng.getC (agL .u8 20 f) (0 : Nat) (5 : Nat)) False fun m5 =>
    Eng.asInt IntKind.u8 (Eng.getC (agL .u8 20 f) (0 : Nat) (6 : Nat)) False fun m6 =>
    Eng.asInt IntKind.u8 (Eng.getC (agL .u8 20 f) (0 : Nat) (7 : Nat)) False fun m7 =>
    Eng.asInt IntKind.u8 (Eng.getC (agL .u8 20 f) (0 : Nat) (8 : Nat)) False fun m8 =>
    Eng.asInt IntKind.u8 (Eng.getC (agL .u8 20 f) (0 : Nat) (9 : Nat)) False fun m9 =>
    Eng.asInt IntKind.u8 (Eng.getC (agL .u8 20 f) (0 : Nat) (10 : Nat)) False fun m10 =>
    Eng.asInt IntKind.u8 (Eng.getC (agL .u8 20 f) (0 : Nat) (11 : Nat)) False fun m11 =>
    Eng.asInt IntKind.u8 (Eng.getC (agL .u8 20 f) (0 : Nat) (12 : Nat)) False fun m12 =>
    Eng.asInt IntKind.u8 (Eng.getC (agL .u8 20 f) (0 : Nat) (13 : Nat)) False fun m13 =>
    Eng.asInt IntKind.u8 (Eng.getC (agL .u8 20 f) (0 : Nat) (14 : Nat)) False fun m14 =>
    Eng.asInt IntKind.u8 (Eng.getC (agL .u8 20 f) (0 : Nat) (15 : Nat)) False fun m15 =>
    Eng.asInt IntKind.u8 (Eng.getC (agL .u8 20 f) (0 : Nat) (16 : Nat)) False fun m16 =>
    Eng.asInt IntKind.u8 (Eng.getC (agL .u8 20 f) (0 : Nat) (17 : Nat)) False fun m17 =>
    Eng.asInt IntKind.u8 (Eng.getC (agL .u8 20 f) (0 : Nat) (18 : Nat)) False fun m18 =>
    Eng.asInt IntKind.u8 (Eng.getC (agL .u8 20 f) (0 : Nat) (19 : Nat)) False fun m19 =>
    (if (0 : Nat) < List.length (agL .u8 20 f) then
    lt (List.set (agL .u8 20 f) (0 : Nat) (Eng.setE (List.getD (agL .u8 20 f) (0 : Nat) Eng.V.bad) (0 : Nat) [Eng.V.c (Value.int IntKind.u8 m0), Eng.V.c (Value.int IntKind.u8 m1), Eng.V.c (Value.int IntKind.u8 m2), Eng.V.c (Value.int IntKind.u8 m3), Eng.V.c (Value.int IntKind.u8 m4), Eng.V.c (Value.int IntKind.u8 m5), Eng.V.c (Value.int IntKind.u8 m6), Eng.V.c (Value.int IntKind.u8 m7), Eng.V.c (Value.int IntKind.u8 m8), Eng.V.c (Value.int IntKind.u8 m9), Eng.V.c (Value.int IntKind.u8 m10), Eng.V.c (Value.int IntKind.u8 m11), Eng.V.c (Value.int IntKind.u8 m12), Eng.V.c (Value.int IntKind.u8 m13), Eng.V.c (Value.int IntKind.u8 m14), Eng.V.c (Value.int IntKind.u8 m15), Eng.V.c (Value.int IntKind.u8 m16), Eng.V.c (Value.int IntKind.u8 m17), Eng.V.c (Value.int IntKind.u8 m18), Eng.V.c (Value.int IntKind.u8 m19)])) fun v =>
    Eng.asInt IntKind.u8 (Eng.getC v (0 : Nat) (0 : Nat)) False fun p0 =>
    Eng.asInt IntKind.u8 (Eng.getC v (0 : Nat) (1 : Nat)) False fun p1 =>
    Eng.asInt IntKind.u8 (Eng.getC v (0 : Nat) (2 : Nat)) False fun p2 =>
    Eng.asInt IntKind.u8 (Eng.getC v (0 : Nat) (3 : Nat)) False fun p3 =>
    Eng.asInt IntKind.u8 (Eng.getC v (0 : Nat) (4 : Nat)) False fun p4 =>
    Eng.asInt IntKind.u8 (Eng.getC v (0 : Nat) (5 : Nat)) False fun p5 =>
    Eng.asInt IntKind.u8 (Eng.getC v (0 : Nat) (6 : Nat)) False fun p6 =>
    Eng.asInt IntKind.u8 (Eng.getC v (0 : Nat) (7 : Nat)) False fun p7 =>
    Eng.asInt IntKind.u8 (Eng.getC v (0 : Nat) (8 : Nat)) False fun p8 =>
    Eng.asInt IntKind.u8 (Eng.getC v (0 : Nat) (9 : Nat)) False fun p9 =>
    Eng.asInt IntKind.u8 (Eng.getC v (0 : Nat) (10 : Nat)) False fun p10 =>
    Eng.asInt IntKind.u8 (Eng.getC v (0 : Nat) (11 : Nat)) False fun p11 =>
    Eng.asInt IntKind.u8 (Eng.getC v (0 : Nat) (12 : Nat)) False fun p12 =>
    Eng.asInt IntKind.u8 (Eng.getC v (0 : Nat) (13 : Nat)) False fun p13 =>
    Eng.asInt IntKind.u8 (Eng.getC v (0 : Nat) (14 : Nat)) False fun p14 =>
    Eng.asInt IntKind.u8 (Eng.getC v (0 : Nat) (15 : Nat)) False fun p15 =>
    Eng.asInt IntKind.u8 (Eng.getC v (0 : Nat) (16 : Nat)) False fun p16 =>
    Eng.asInt IntKind.u8 (Eng.getC v (0 : Nat) (17 : Nat)) False fun p17 =>
    Eng.asInt IntKind.u8 (Eng.getC v (0 : Nat) (18 : Nat)) False fun p18 =>
    Eng.asInt IntKind.u8 (Eng.getC v (0 : Nat) (19 : Nat)) False fun p19 =>
    K (p0, p1, p2, p3, p4, p5, p6, p7, p8, p9, p10, p11, p12, p13, p14, p15, p16, p17, p18, p19, ()) else False)) = K (t20 u) := by
  rw [asIe 0 rfl, asIe 1 rfl, asIe 2 rfl, asIe 3 rfl, asIe 4 rfl, asIe 5 rfl, asIe 6 rfl, asIe 7 rfl, asIe 8 rfl, asIe 9 rfl, asIe 10 rfl, asIe 11 rfl, asIe 12 rfl, asIe 13 rfl, asIe 14 rfl, asIe 15 rfl, asIe 16 rfl, asIe 17 rfl, asIe 18 rfl, asIe 19 rfl]
  rw [if_pos (show (0 : Nat) < List.length (agL .u8 20 f) from Nat.zero_lt_one)]
  rw [set20]
  simp only [lt]
  rw [asIe 0 rfl, asIe 1 rfl, asIe 2 rfl, asIe 3 rfl, asIe 4 rfl, asIe 5 rfl, asIe 6 rfl, asIe 7 rfl, asIe 8 rfl, asIe 9 rfl, asIe 10 rfl, asIe 11 rfl, asIe 12 rfl, asIe 13 rfl, asIe 14 rfl, asIe 15 rfl, asIe 16 rfl, asIe 17 rfl, asIe 18 rfl, asIe 19 rfl]
  rw [hf 0 (by decide), hf 1 (by decide), hf 2 (by decide), hf 3 (by decide), hf 4 (by decide), hf 5 (by decide), hf 6 (by decide), hf 7 (by decide), hf 8 (by decide), hf 9 (by decide), hf 10 (by decide), hf 11 (by decide), hf 12 (by decide), hf 13 (by decide), hf 14 (by decide), hf 15 (by decide), hf 16 (by decide), hf 17 (by decide), hf 18 (by decide), hf 19 (by decide)]
/-- The bytes out of the words. -/
theorem sBytes (s : St5) (u : Nat → UInt8) (hu : ∀ n, n < 20 → u n = UInt8.ofNat ((s.at (n / 4)).toNat / 2 ^ (24 - 8 * (n % 4)))) {K : Q24 → Prop} (k6 k9) (h : K (t20 u)) :
    lp (Lsha_Sum_2 K k6 k9) (((), (), 0, ()), agL .u8 20 (fun _ => 0), (wi s.a, wi s.b, wi s.c, wi s.d, wi s.e, ()), ()) := by
  refine lp_at (fun j => (((), (), (j : Int), ()), agL .u8 20 (part u j), (wi s.a, wi s.b, wi s.c, wi s.d, wi s.e, ()), ())) 20 rfl fun n hn k hk => ?_
  unfold Lsha_Sum_2
  simp only [decide_eq_true_eq]
  by_cases e : n = 20
  · subst e
    rw [if_neg (show ¬ ((20 : Nat) : Int) < 20 by omega)]
    rw [read20 u (part u 20) (fun i hi => if_pos hi)]
    exact h
  · have hn' : n < 20 := by omega
    have hk' := hk hn'
    rw [← part_next] at hk'
    have e4 : w64 (Int.tdiv (n : Int) 4) = ((n / 4 : Nat) : Int) := by
      rw [Int.tdiv_eq_ediv_of_nonneg (by omega), w64_in (by omega) (by omega)]; omega
    have e5 : w64 (24 - w64 (Int.tmod (n : Int) 4 * 8)) = ((24 - 8 * (n % 4) : Nat) : Int) := by
      rw [Int.tmod_eq_emod_of_nonneg (by omega), w64_in (n := (n : Int) % 4 * 8) (by omega) (by omega), w64_in (by omega) (by omega)]; omega
    have e1 : w64 ((n : Int) + 1) = ((n + 1 : Nat) : Int) := by rw [w64_in (by omega) (by omega)]; omega
    rw [e4, e5, e1]
    simp only [Int.toNat_natCast, Nat.mul_one, Nat.zero_add, lt]
    refine ifT (by omega) (ifT (by omega) (as5 s (by omega) (ifF (by omega) (ifT (by omega) (ifT (Nat.zero_lt_one) (ifT (by show n + 1 ≤ 20; omega) ?_))))))
    rw [show min (24 - 8 * (n % 4)) 32 = 24 - 8 * (n % 4) by omega]
    have e8 := wu8_shr (s.at (n / 4)).toNat (24 - 8 * (n % 4)) (Nat.lt_trans (wi_lt _) (by omega))
    rw [show Int.fdiv (wi (s.at (n / 4))) (2 ^ (24 - 8 * (n % 4))) = Int.fdiv ((s.at (n / 4)).toNat : Int) (2 ^ (24 - 8 * (n % 4))) from rfl, e8, ← hu n hn']
    refine (congrArg k ?_).mp hk'
    rw [← agL_set (by omega)]
end Go.Proofs.Ytpekhidbfjlboaa
end
section
set_option linter.unusedVariables false
set_option linter.unusedSimpArgs false
namespace Go.Proofs.Ytpekhidbfjlboaa
open Go Go.Proofs.Ytpekhidbfjlboaa.Eng Go.Proofs.Ytpekhidbfjlboaa.Pl
set_option linter.unusedVariables false
set_option linter.unusedSimpArgs false
set_option maxRecDepth 100000
set_option maxHeartbeats 1000000

theorem zeros20 : [Eng.V.agg [V.c (.int .u8 0), V.c (.int .u8 0), V.c (.int .u8 0), V.c (.int .u8 0), V.c (.int .u8 0), V.c (.int .u8 0), V.c (.int .u8 0), V.c (.int .u8 0), V.c (.int .u8 0), V.c (.int .u8 0), V.c (.int .u8 0), V.c (.int .u8 0), V.c (.int .u8 0), V.c (.int .u8 0), V.c (.int .u8 0), V.c (.int .u8 0), V.c (.int .u8 0), V.c (.int .u8 0), V.c (.int .u8 0), V.c (.int .u8 0)]] = agL .u8 20 (fun _ => 0) := by kernel_rfl
theorem BV_app (a b : List UInt8) : BV a ++ BV b = BV (a ++ b) := by simp [BV]
theorem BV_one (c : UInt8) : [V.c (.int .u8 (bi c))] = BV [c] := rfl
theorem BV_rep (n : Nat) : List.replicate n (Eng.ofVal (Value.int IntKind.u8 0)) = BV (List.replicate n 0) := by
  rw [BV, List.map_replicate]; rfl
theorem be64_len (n : Nat) : (be64 n).length = 8 := by simp [be64]
theorem be64_get (n j : Nat) (h : j < 8) : (be64 n)[j]'(by rw [be64_len]; exact h) = UInt8.ofNat (n / 2 ^ (8 * (7 - j))) := by simp [be64]
theorem sBlocks (l : List UInt8) (hm : l.length % 64 = 0) (hl : l.length ≤ 1000000) (u : Nat → UInt8) (hu : ∀ n, n < 20 → u n = UInt8.ofNat (((blocksN l s0 (l.length / 64)).at (n / 4)).toNat / 2 ^ (24 - 8 * (n % 4)))) {K : Q24 → Prop} (k6) (h : K (t20 u)) :
    lp (Lsha_Sum_1 Xsha_state_block K k6) (((), BV l, (), ()), agL .u8 20 (fun _ => 0), (wi s0.a, wi s0.b, wi s0.c, wi s0.d, wi s0.e, ()), ()) := by
  refine lp_at (fun j => (((), BV (l.drop (64 * j)), (), ()), agL .u8 20 (fun _ => 0), (wi (blocksN l s0 j).a, wi (blocksN l s0 j).b, wi (blocksN l s0 j).c, wi (blocksN l s0 j).d, wi (blocksN l s0 j).e, ()), ())) (l.length / 64) rfl fun n hn k hk => ?_
  unfold Lsha_Sum_1
  simp only [decide_eq_true_eq, BV_len, List.length_drop]
  by_cases e : n = l.length / 64
  · rw [if_neg (by omega)]
    rw [e]
    exact sBytes _ u hu _ _ h
  · have hn' : n < l.length / 64 := by omega
    have hk' := hk hn'
    rw [if_pos (by omega), if_pos (by omega)]
    rw [BV_cut, List.drop_zero]
    refine sBlock _ (by simp; omega) _ ?_
    rw [if_pos (by omega), if_pos (by omega), Int.toNat_natCast, BV_cut, List.drop_drop]
    have e1 : (l.drop (64 * n + 64)).take (l.length - 64 * n - 64) = l.drop (64 * (n + 1)) := by
      rw [List.take_of_length_le (by simp; omega)]; congr 1
    rw [e1]
    exact hk'
theorem sSum (v : List V) (ps : List (List UInt8)) (hp : Parts v ps) (hn : ps.length ≤ 1000000) (hl : ps.flatten.length ≤ 100000) {K : Q24 → Prop} (h : K (t20 (digest ps.flatten))) : Xsha_Sum v K := by
  unfold Xsha_Sum Ysha_Sum
  refine sConcat v ps hp hn (by omega) fun frz => ?_
  generalize ps.flatten = m at *
  rw [if_pos rfl]
  rw [show V.c (.int .u8 128) = cb 128 from rfl, show [cb 128] = BV [128] from rfl, BV_app]
  simp only [BV_len]
  rw [if_pos (room _ (by omega))]
  have e4 : w64 (184 - Int.tmod ((m ++ [128] : List UInt8).length : Int) 64) = ((184 - (m.length + 1) % 64 : Nat) : Int) := by
    rw [Int.tmod_eq_emod_of_nonneg (by omega), List.length_append, List.length_singleton, w64_in (by omega) (by omega)]; omega
  have e5 : Int.tmod ((184 - (m.length + 1) % 64 : Nat) : Int) 64 = (((184 - (m.length + 1) % 64) % 64 : Nat) : Int) := by
    rw [Int.tmod_eq_emod_of_nonneg (by omega)]; omega
  rw [e4]
  simp only [lt, e5, Int.toNat_natCast, BV_rep, BV_app, BV_len]
  rw [if_pos (by omega), if_pos trivial, if_pos (room _ (by simp; omega))]
  have e6 : wu64 (wu64 (m.length : Int) * 8) = ((8 * m.length : Nat) : Int) := by
    rw [wu64_in (n := (m.length : Int)) (by omega) (by omega), wu64_in (by omega) (by omega)]; omega
  rw [e6, zeros20]
  have hlp : (padL m).length ≤ 1000000 := by simp [padL, be64]; omega
  refine lp_at (fun j => (((), (), ((8 * m.length : Nat) : Int), 7 - (j : Int), ()), agL .u8 20 (fun _ => 0), (BV (m ++ [128] ++ List.replicate ((184 - (m.length + 1) % 64) % 64) 0 ++ (be64 (8 * m.length)).take j), true, frz), ())) 8 (by simp) fun n hn k hk => ?_
  unfold Lsha_Sum_0
  simp only [decide_eq_true_eq, BV_len, List.length_append, List.length_take, be64_len, List.length_replicate, List.length_singleton]
  by_cases e : n = 8
  · rw [if_neg (by omega)]
    subst e
    rw [List.take_of_length_le (by rw [be64_len]; omega)]
    exact sBlocks (padL m) (padL_len m) hlp (digest m) (fun _ _ => rfl) _ h
  · have hn' : n < 8 := by omega
    have hk' := hk hn'
    have e8 : w64 (8 * (7 - (n : Int))) = ((8 * (7 - n) : Nat) : Int) := by rw [w64_in (by omega) (by omega)]; omega
    have e1 : w64 (7 - (n : Int) - 1) = 7 - ((n + 1 : Nat) : Int) := by rw [w64_in (by omega) (by omega)]; omega
    rw [e8, e1]
    rw [if_pos (by omega), if_neg (by omega), Int.toNat_natCast, show min (8 * (7 - n)) 64 = 8 * (7 - n) by omega]
    rw [wu8_shr _ _ (by omega)]
    simp only [lt, if_true]
    rw [if_pos (room _ (by simp; omega))]
    rw [BV_one, BV_app]
    refine (congrArg k ?_).mp hk'
    rw [List.take_succ_eq_append_getElem (by rw [be64_len]; omega), be64_get _ _ hn', ← List.append_assoc]
end Go.Proofs.Ytpekhidbfjlboaa
end
section
set_option linter.unusedVariables false
set_option linter.unusedSimpArgs false
namespace Go.Proofs.Ytpekhidbfjlboaa
open Go Go.Proofs.Ytpekhidbfjlboaa.Eng Go.Proofs.Ytpekhidbfjlboaa.Pl
set_option linter.unusedVariables false
set_option linter.unusedSimpArgs false
set_option maxRecDepth 100000
set_option maxHeartbeats 1000000

abbrev t5 (w : Nat → W32) : Q34 := (wi (w 0), wi (w 1), wi (w 2), wi (w 3), wi (w 4), ())
def dL (d : Nat → UInt8) : List UInt8 := (List.range 20).map d
theorem dL_len (d : Nat → UInt8) : (dL d).length = 20 := by simp [dL]
theorem dL_get (d : Nat → UInt8) (i : Nat) (h : i < 20) : (dL d)[i]'(by rw [dL_len]; exact h) = d i := by simp [dL]
theorem as20 {d : Nat → UInt8} {i : Nat} (h : i < 20) {F : Prop} {K : Int → Prop} (hk : K (bi (d i))) : Eng.asInt .u8 ([V.c (.int .u8 (bi (d 0))), V.c (.int .u8 (bi (d 1))), V.c (.int .u8 (bi (d 2))), V.c (.int .u8 (bi (d 3))), V.c (.int .u8 (bi (d 4))), V.c (.int .u8 (bi (d 5))), V.c (.int .u8 (bi (d 6))), V.c (.int .u8 (bi (d 7))), V.c (.int .u8 (bi (d 8))), V.c (.int .u8 (bi (d 9))), V.c (.int .u8 (bi (d 10))), V.c (.int .u8 (bi (d 11))), V.c (.int .u8 (bi (d 12))), V.c (.int .u8 (bi (d 13))), V.c (.int .u8 (bi (d 14))), V.c (.int .u8 (bi (d 15))), V.c (.int .u8 (bi (d 16))), V.c (.int .u8 (bi (d 17))), V.c (.int .u8 (bi (d 18))), V.c (.int .u8 (bi (d 19)))][i]?) F K := by
  have : [V.c (.int .u8 (bi (d 0))), V.c (.int .u8 (bi (d 1))), V.c (.int .u8 (bi (d 2))), V.c (.int .u8 (bi (d 3))), V.c (.int .u8 (bi (d 4))), V.c (.int .u8 (bi (d 5))), V.c (.int .u8 (bi (d 6))), V.c (.int .u8 (bi (d 7))), V.c (.int .u8 (bi (d 8))), V.c (.int .u8 (bi (d 9))), V.c (.int .u8 (bi (d 10))), V.c (.int .u8 (bi (d 11))), V.c (.int .u8 (bi (d 12))), V.c (.int .u8 (bi (d 13))), V.c (.int .u8 (bi (d 14))), V.c (.int .u8 (bi (d 15))), V.c (.int .u8 (bi (d 16))), V.c (.int .u8 (bi (d 17))), V.c (.int .u8 (bi (d 18))), V.c (.int .u8 (bi (d 19)))] = (List.range 20).map fun i => V.c (.int .u8 (bi (d i))) := rfl
  rw [this]
  exact asL h hk
def wv (d : Nat → UInt8) (i j : Nat) : Int := wi (word (((dL d).drop (4 * j)).take (min 4 (i - 4 * j))) 0)
theorem wv_next (d : Nat → UInt8) (i : Nat) (h : i < 20) : updF (wv d i) (i / 4) (wi (word (((dL d).drop (4 * (i / 4))).take (min 4 (i - 4 * (i / 4)))) 0 <<< 8 ||| BitVec.ofNat 32 (d i).toNat)) = wv d (i + 1) := by
  funext j
  unfold updF wv
  by_cases e : j = i / 4
  · rw [if_pos e, e]
    have e1 : min 4 (i - 4 * (i / 4)) = i % 4 := by omega
    have e2 : min 4 (i + 1 - 4 * (i / 4)) = i % 4 + 1 := by omega
    rw [e1, e2, List.take_succ_eq_append_getElem (by rw [List.length_drop, dL_len]; omega), word_snoc, List.getElem_drop]
    have e3 : (dL d)[4 * (i / 4) + i % 4]'(by rw [dL_len]; omega) = d i := by
      rw [dL_get d _ (by omega)]; congr 1; omega
    rw [e3]
  · rw [if_neg e]
    have : min 4 (i - 4 * j) = min 4 (i + 1 - 4 * j) := by omega
    rw [this]
theorem wv_end (d : Nat → UInt8) (j : Nat) (h : j < 5) : wv d 20 j = wi (wordsOf d j) := by
  unfold wv wordsOf
  rw [show min 4 (20 - 4 * j) = 4 by omega]
  match j, h with
  | 0, _ => rfl
  | 1, _ => rfl
  | 2, _ => rfl
  | 3, _ => rfl
  | 4, _ => rfl
theorem set5 (f : Nat → Int) : List.set (agL .u32 5 f) 0 (setE (List.getD (agL .u32 5 f) 0 V.bad) 0 [V.c (.int .u32 (f 0)), V.c (.int .u32 (f 1)), V.c (.int .u32 (f 2)), V.c (.int .u32 (f 3)), V.c (.int .u32 (f 4))]) = agL .u32 5 f := by kernel_rfl
theorem read5 (u : Nat → W32) (f : Nat → Int) (hf : ∀ i, i < 5 → f i = wi (u i)) {K : Q34 → Prop} : (Eng.asInt IntKind.u32 (Eng.getC (agL .u32 5 f) (0 : Nat) (0 : Nat)) False fun m0 =>
    Eng.asInt IntKind.u32 (Eng.getC (agL .u32 5 f) (0 : Nat) (1 : Nat)) False fun m1 =>
    Eng.asInt IntKind.u32 (Eng.getC (agL .u32 5 f) (0 : Nat) (2 : Nat)) False fun m2 =>
    Eng.asInt IntKind.u32 (Eng.getC (agL .u32 5 f) (0 : Nat) (3 : Nat)) False fun m3 =>
    Eng.asInt IntKind.u32 (Eng.getC (agL .u32 5 f) (0 : Nat) (4 : Nat)) False fun m4 =>
    (if (0 : Nat) < List.length (agL .u32 5 f) then
    lt (List.set (agL .u32 5 f) (0 : Nat) (Eng.setE (List.getD (agL .u32 5 f) (0 : Nat) Eng.V.bad) (0 : Nat) [V.c (.int .u32 m0), V.c (.int .u32 m1), V.c (.int .u32 m2), V.c (.int .u32 m3), V.c (.int .u32 m4)])) fun v =>
    Eng.asInt IntKind.u32 (Eng.getC v (0 : Nat) (0 : Nat)) False fun p0 =>
    Eng.asInt IntKind.u32 (Eng.getC v (0 : Nat) (1 : Nat)) False fun p1 =>
    Eng.asInt IntKind.u32 (Eng.getC v (0 : Nat) (2 : Nat)) False fun p2 =>
    Eng.asInt IntKind.u32 (Eng.getC v (0 : Nat) (3 : Nat)) False fun p3 =>
    Eng.asInt IntKind.u32 (Eng.getC v (0 : Nat) (4 : Nat)) False fun p4 =>
    K (p0, p1, p2, p3, p4, ()) else False)) = K (t5 u) := by
  rw [asIe 0 rfl, asIe 1 rfl, asIe 2 rfl, asIe 3 rfl, asIe 4 rfl]
  rw [if_pos (show (0 : Nat) < List.length (agL .u32 5 f) from Nat.zero_lt_one)]
  rw [set5]
  simp only [lt]
  rw [asIe 0 rfl, asIe 1 rfl, asIe 2 rfl, asIe 3 rfl, asIe 4 rfl]
  rw [hf 0 (by decide), hf 1 (by decide), hf 2 (by decide), hf 3 (by decide), hf 4 (by decide)]

theorem zeros5 : [Eng.V.agg [V.c (.int .u32 0), V.c (.int .u32 0), V.c (.int .u32 0), V.c (.int .u32 0), V.c (.int .u32 0)]] = agL .u32 5 (fun _ => 0) := by kernel_rfl
theorem wv_zero (d : Nat → UInt8) : agL .u32 5 (wv d 0) = agL .u32 5 (fun _ => 0) := agL_congr fun i hi => by unfold wv; rw [Nat.zero_sub, Nat.min_zero, List.take_zero]; rfl
theorem sWords (d : Nat → UInt8) {K : Q34 → Prop} (h : K (t5 (wordsOf d))) : Xsha_Words (t20 d) K := by
  unfold Xsha_Words Ysha_Words
  rw [zeros5, ← wv_zero d]
  refine lp_at (fun j => (((), t20 d, (j : Int), ()), agL .u32 5 (wv d j), ())) 20 rfl fun n hn k hk => ?_
  unfold Lsha_Words_0
  simp only [decide_eq_true_eq]
  by_cases e : n = 20
  · subst e
    rw [if_neg (by omega)]
    rw [read5 (wordsOf d) (wv d 20) (wv_end d)]
    exact h
  · have hn' : n < 20 := by omega
    have hk' := hk hn'
    rw [← wv_next d n hn'] at hk'
    have e4 : w64 (Int.tdiv (n : Int) 4) = ((n / 4 : Nat) : Int) := by
      rw [Int.tdiv_eq_ediv_of_nonneg (by omega), w64_in (by omega) (by omega)]; omega
    have e1 : w64 ((n : Int) + 1) = ((n + 1 : Nat) : Int) := by rw [w64_in (by omega) (by omega)]; omega
    rw [e4, e1]
    simp only [Int.toNat_natCast, Nat.mul_one, Nat.zero_add, lt]
    rw [if_pos (by omega), if_pos (by omega)]
    refine as20 hn' ?_
    rw [if_pos (by omega)]
    refine asI (by omega) ?_
    have e8 := wi_shl (word (((dL d).drop (4 * (n / 4))).take (min 4 (n - 4 * (n / 4)))) 0) 8
    rw [show ((2 : Int) ^ 8) = 256 from rfl] at e8
    rw [show wv d n (n / 4) = wi (word (((dL d).drop (4 * (n / 4))).take (min 4 (n - 4 * (n / 4)))) 0) from rfl]
    simp only [e8, wu32_bi, wi_or]
    rw [if_pos (by omega), if_pos (show (0 : Nat) < List.length (agL .u32 5 (wv d n)) from Nat.zero_lt_one), if_pos (by show n / 4 + 1 ≤ 5; omega)]
    rw [agL_set (by omega)]
    exact hk'
theorem nib (c : UInt8) : Int.fdiv (bi c) 16 = ((c.toNat / 16 : Nat) : Int) := by
  rw [Int.fdiv_eq_ediv_of_nonneg _ (by omega)]; unfold bi; omega
theorem nib2 (c : UInt8) : wu8 ((BitVec.toNat (BitVec.ofInt 8 (bi c) &&& BitVec.ofInt 8 15) : Nat) : Int) = ((c.toNat % 16 : Nat) : Int) := by
  have h := bi_lt c
  have : (BitVec.ofInt 8 (bi c) &&& BitVec.ofInt 8 15).toNat = c.toNat % 16 := by
    rw [BitVec.toNat_and]
    rw [show BitVec.toNat (BitVec.ofInt 8 15) = 2 ^ 4 - 1 from rfl, Nat.and_two_pow_sub_one_eq_mod]
    rw [BitVec.toNat_ofInt]
    unfold bi
    rw [show (2 ^ 8 : Nat) = 256 from rfl, show (2 ^ 4 : Nat) = 16 from rfl]
    omega
  rw [this, wu8_in (by omega) (by omega)]
theorem bAt_hex (n : Nat) : Eng.bAt (ByteArray.mk #[(48 : UInt8), (49 : UInt8), (50 : UInt8), (51 : UInt8), (52 : UInt8), (53 : UInt8), (54 : UInt8), (55 : UInt8), (56 : UInt8), (57 : UInt8), (97 : UInt8), (98 : UInt8), (99 : UInt8), (100 : UInt8), (101 : UInt8), (102 : UInt8)]) n = bi (hexC n) := rfl
theorem hexN_len (d : Nat → UInt8) (n : Nat) : (hexN d n).length = 2 * n := by
  induction n with
  | zero => rfl
  | succ n ih => simp [hexN, ih]; omega
theorem allU8_BV (l : List UInt8) : allU8 (BV l) = true := by
  simp [allU8, BV, isU8]
theorem packB_BV (l : List UInt8) : packB (BV l) = S l := by
  unfold packB BV
  rw [List.map_map]
  have : (Eng.byteOf ∘ cb) = id := by
    funext c; simp [Eng.byteOf, cb, bi]
  rw [this, List.map_id]
theorem sHex (d : Nat → UInt8) {K : ByteArray → Prop} (h : K (S (hexN d 20))) : Xsha_Hex (t20 d) K := by
  unfold Xsha_Hex Ysha_Hex
  refine lp_at (fun j => ((ByteArray.mk #[], (), t20 d, (j : Int), ()), BV (hexN d j), ())) 20 rfl fun n hn k hk => ?_
  unfold Lsha_Hex_0
  simp only [decide_eq_true_eq]
  by_cases e : n = 20
  · subst e
    rw [if_neg (by omega), if_pos (allU8_BV _), packB_BV]
    exact h
  · have hn' : n < 20 := by omega
    have hk' := hk hn'
    have e1 : w64 ((n : Int) + 1) = ((n + 1 : Nat) : Int) := by rw [w64_in (by omega) (by omega)]; omega
    rw [e1]
    simp only [Int.toNat_natCast, Nat.mul_one, Nat.zero_add, lt]
    rw [if_pos (by omega), if_pos (by omega)]
    refine as20 hn' ?_
    have hb := bi_lt (d n)
    simp only [nib, nib2, Int.toNat_natCast, bAt_hex]
    rw [if_pos (by omega), if_pos (by omega), if_pos (room _ (by rw [BV_len, hexN_len]; simp; omega))]
    rw [show [V.c (.int .u8 (bi (hexC ((d n).toNat / 16)))), V.c (.int .u8 (bi (hexC ((d n).toNat % 16))))] = BV [hexC ((d n).toNat / 16), hexC ((d n).toNat % 16)] from rfl, BV_app]
    exact hk'
end Go.Proofs.Ytpekhidbfjlboaa
end
