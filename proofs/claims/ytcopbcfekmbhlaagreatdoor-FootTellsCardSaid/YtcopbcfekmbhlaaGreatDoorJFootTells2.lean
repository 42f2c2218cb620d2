/- What the functions come to in plain data, with proofs, and what that answers. -/
import Derived.Test.YtcopbcfekmbhlaaGreatDoorJFootTells1
import Derived.Test.YtcopbcfekmbhlaaGreatDoorProg
import Derived.Lib.Strings
import Derived.Lib.Atoi
import Derived.Laws.Concat
import Derived.Lib.ItoaNum
import Derived.Laws.RangeString
import Derived.Laws.RangeAny
import Derived.KernelRfl
import Derived.Lib.Bytealg
section
set_option linter.unusedVariables false
set_option linter.unusedSimpArgs false
namespace Go.Proofs.YtcopbcfekmbhlaaGreatDoor
open Go Go.Proofs.YtcopbcfekmbhlaaGreatDoor.Eng
set_option linter.unusedVariables false
set_option maxRecDepth 100000
set_option maxHeartbeats 4000000
variable {G : Gs}
/- epact/epactref05.Cut -/
def Lepactref05_Cut_0 (K : (ByteArray) → (ByteArray) → (Bool) → Prop) : ((ByteArray × ByteArray × ByteArray × ByteArray × Bool × Int × Unit) × (Unit) → Prop) → (ByteArray × ByteArray × ByteArray × ByteArray × Bool × Int × Unit) × (Unit) → Prop := fun k2 x3 =>
 (if decide (w64 (x3.1.2.2.2.2.2.1 + (↑(ByteArray.size x3.1.2.1) : Int)) ≤ (↑(ByteArray.size x3.1.1) : Int)) = true then
 (if (!ByteArray.toList x3.1.2.1 == ByteArray.toList (ByteArray.mk #[])) = true then
 (if (0 : Int) ≤ w64 (x3.1.2.2.2.2.2.1 + (↑(ByteArray.size x3.1.2.1) : Int)) ∧ w64 (x3.1.2.2.2.2.2.1 + (↑(ByteArray.size x3.1.2.1) : Int)) ≤ (↑(ByteArray.size x3.1.1) : Int) then
 (if (0 : Int) ≤ x3.1.2.2.2.2.2.1 ∧ x3.1.2.2.2.2.2.1 ≤ w64 (x3.1.2.2.2.2.2.1 + (↑(ByteArray.size x3.1.2.1) : Int)) then
 (lt (ByteArray.extract x3.1.1 (Int.toNat x3.1.2.2.2.2.2.1) (Int.toNat (w64 (x3.1.2.2.2.2.2.1 + (↑(ByteArray.size x3.1.2.1) : Int))))) fun v4 =>
 (if (ByteArray.toList v4 == ByteArray.toList x3.1.2.1) = true then
 (if (0 : Int) ≤ x3.1.2.2.2.2.2.1 ∧ x3.1.2.2.2.2.2.1 ≤ (↑(ByteArray.size x3.1.1) : Int) then
 (if (0 : Int) ≤ (0 : Int) ∧ (0 : Int) ≤ x3.1.2.2.2.2.2.1 then
 (if (0 : Int) ≤ (↑(ByteArray.size x3.1.1) : Int) ∧ (↑(ByteArray.size x3.1.1) : Int) ≤ (↑(ByteArray.size x3.1.1) : Int) then
 (if (0 : Int) ≤ w64 (x3.1.2.2.2.2.2.1 + (↑(ByteArray.size x3.1.2.1) : Int)) ∧ w64 (x3.1.2.2.2.2.2.1 + (↑(ByteArray.size x3.1.2.1) : Int)) ≤ (↑(ByteArray.size x3.1.1) : Int) then
 (lt (ByteArray.extract x3.1.1 (Int.toNat (w64 (x3.1.2.2.2.2.2.1 + (↑(ByteArray.size x3.1.2.1) : Int)))) (Int.toNat (↑(ByteArray.size x3.1.1) : Int))) fun v5 =>
 K (ByteArray.extract x3.1.1 (0 : Nat) (Int.toNat x3.1.2.2.2.2.2.1)) v5 true)
 else
 False)
 else
 False)
 else
 False)
 else
 False)
 else
 k2 ((x3.1.1, x3.1.2.1, x3.1.2.2.1, x3.1.2.2.2.1, x3.1.2.2.2.2.1, w64 (x3.1.2.2.2.2.2.1 + (1 : Int)), ()), ())))
 else
 False)
 else
 False)
 else
 K x3.1.1 (ByteArray.mk #[]) false)
 else
 K x3.1.1 (ByteArray.mk #[]) false)
def Lepactref05_Cut_0p : Lp := ⟨243, [.trim 243], (.cons 0 .str (.cons 1 .str (.cons 4 .str (.cons 5 .str (.cons 6 .bool (.cons 7 (.int .i64) .nil)))))), .nil, 0⟩
def Yepactref05_Cut (a0 : ByteArray) (a1 : ByteArray) (K : (ByteArray) → (ByteArray) → (Bool) → Prop) : Prop :=
 lp (Lepactref05_Cut_0 K) ((a0, a1, ByteArray.mk #[], ByteArray.mk #[], false, (0 : Int), ()), ())
def Xepactref05_Cut (a0 : ByteArray) (a1 : ByteArray) (K : (ByteArray) → (ByteArray) → (Bool) → Prop) : Prop := Yepactref05_Cut a0 a1 K
def Jepactref05_Cut (X : (ByteArray) → (ByteArray) → ((ByteArray) → (ByteArray) → (Bool) → Prop) → Prop) : Inst := ⟨51, (.cons .str (.cons .str .nil)), .nil, (.cons .str (.cons .str (.cons .bool .nil))), .nil, fun x y K => X x.1 x.2.1 (fun u0 u1 u2 => K (u0, (u1, (u2, ()))) ())⟩
def Iepactref05_Cut : Inst := Jepactref05_Cut Xepactref05_Cut
theorem Eepactref05_Cut (x : PL.T (.cons .str (.cons .str .nil))) (y : PH.T .nil) (K : PL.T (.cons .str (.cons .str (.cons .bool .nil))) → PH.T .nil → Prop) : Yepactref05_Cut x.1 x.2.1 (fun u0 u1 u2 => K (u0, (u1, (u2, ()))) ()) = bodyC (envP Tryz.prog 40 gives ⟨tabC [], tabL [Lepactref05_Cut_0p]⟩) Tryz.f51 (Tryz.f51.body.getD .skip) (PL.enc (.cons .str (.cons .str .nil)) x) (PH.enc .nil y) (resK (.cons .str (.cons .str (.cons .bool .nil))) .nil K) := by kernel_rfl
theorem Iepactref05_Cut_ok : InstOk Tryz.prog G.1 Iepactref05_Cut := inst_ok (gives := gives) (is := []) [Lepactref05_Cut_0p] okNil 40 follows Tryz.func51 (by kernel_rfl) (fun x => by kernel_rfl) (fun x y K => Eepactref05_Cut x y K)

/- epact/epactref18.name -/
def Lepactref18_name_1 (xepactref18_letter : (Int) → ((Bool) → Prop) → Prop) (xepactref14_Right : (ByteArray) → ((Bool) → Prop) → Prop) (K : (ByteArray) → (ByteArray) → (Bool) → Prop) : ((ByteArray × ByteArray × ByteArray × Bool × Int × Unit) × (Unit) → Prop) → (ByteArray × ByteArray × ByteArray × Bool × Int × Unit) × (Unit) → Prop := fun k10 x11 =>
 (if decide (x11.1.2.2.2.2.1 < (↑(ByteArray.size x11.1.1) : Int)) = true then
 (if (0 : Int) ≤ x11.1.2.2.2.2.1 ∧ x11.1.2.2.2.2.1 < (↑(ByteArray.size x11.1.1) : Int) then
 xepactref18_letter (Eng.bAt x11.1.1 (Int.toNat x11.1.2.2.2.2.1)) (fun r12 =>
 (if r12 = true then
 k10 ((x11.1.1, x11.1.2.1, x11.1.2.2.1, x11.1.2.2.2.1, w64 (x11.1.2.2.2.2.1 + (1 : Int)), ()), ())
 else
 (if (0 : Int) ≤ x11.1.2.2.2.2.1 ∧ x11.1.2.2.2.2.1 ≤ (↑(ByteArray.size x11.1.1) : Int) then
 (if (0 : Int) ≤ (0 : Int) ∧ (0 : Int) ≤ x11.1.2.2.2.2.1 then
 xepactref14_Right (ByteArray.extract x11.1.1 (0 : Nat) (Int.toNat x11.1.2.2.2.2.1)) (fun r13 =>
 (if (0 : Int) ≤ x11.1.2.2.2.2.1 ∧ x11.1.2.2.2.2.1 ≤ (↑(ByteArray.size x11.1.1) : Int) then
 (if (0 : Int) ≤ (0 : Int) ∧ (0 : Int) ≤ x11.1.2.2.2.2.1 then
 (if (0 : Int) ≤ (↑(ByteArray.size x11.1.1) : Int) ∧ (↑(ByteArray.size x11.1.1) : Int) ≤ (↑(ByteArray.size x11.1.1) : Int) then
 (if (0 : Int) ≤ x11.1.2.2.2.2.1 ∧ x11.1.2.2.2.2.1 ≤ (↑(ByteArray.size x11.1.1) : Int) then
 K (ByteArray.extract x11.1.1 (0 : Nat) (Int.toNat x11.1.2.2.2.2.1)) (ByteArray.extract x11.1.1 (Int.toNat x11.1.2.2.2.2.1) (Int.toNat (↑(ByteArray.size x11.1.1) : Int))) r13
 else
 False)
 else
 False)
 else
 False)
 else
 False))
 else
 False)
 else
 False)))
 else
 False)
 else
 (if (0 : Int) ≤ x11.1.2.2.2.2.1 ∧ x11.1.2.2.2.2.1 ≤ (↑(ByteArray.size x11.1.1) : Int) then
 (if (0 : Int) ≤ (0 : Int) ∧ (0 : Int) ≤ x11.1.2.2.2.2.1 then
 xepactref14_Right (ByteArray.extract x11.1.1 (0 : Nat) (Int.toNat x11.1.2.2.2.2.1)) (fun r14 =>
 (if (0 : Int) ≤ x11.1.2.2.2.2.1 ∧ x11.1.2.2.2.2.1 ≤ (↑(ByteArray.size x11.1.1) : Int) then
 (if (0 : Int) ≤ (0 : Int) ∧ (0 : Int) ≤ x11.1.2.2.2.2.1 then
 (if (0 : Int) ≤ (↑(ByteArray.size x11.1.1) : Int) ∧ (↑(ByteArray.size x11.1.1) : Int) ≤ (↑(ByteArray.size x11.1.1) : Int) then
 (if (0 : Int) ≤ x11.1.2.2.2.2.1 ∧ x11.1.2.2.2.2.1 ≤ (↑(ByteArray.size x11.1.1) : Int) then
 K (ByteArray.extract x11.1.1 (0 : Nat) (Int.toNat x11.1.2.2.2.2.1)) (ByteArray.extract x11.1.1 (Int.toNat x11.1.2.2.2.2.1) (Int.toNat (↑(ByteArray.size x11.1.1) : Int))) r14
 else
 False)
 else
 False)
 else
 False)
 else
 False))
 else
 False)
 else
 False))
def Lepactref18_name_1p : Lp := ⟨541, [.trim 541], (.cons 0 .str (.cons 2 .str (.cons 3 .str (.cons 4 .bool (.cons 9 (.int .i64) .nil))))), .nil, 0⟩
def Lepactref18_name_0 (xepactref18_letter : (Int) → ((Bool) → Prop) → Prop) (xepactref14_Right : (ByteArray) → ((Bool) → Prop) → Prop) (K : (ByteArray) → (ByteArray) → (Bool) → Prop) : ((ByteArray × ByteArray × ByteArray × Bool × Int × Unit) × (Unit) → Prop) → (ByteArray × ByteArray × ByteArray × Bool × Int × Unit) × (Unit) → Prop := fun k5 x6 =>
 (if decide (x6.1.2.2.2.2.1 < (↑(ByteArray.size x6.1.1) : Int)) = true then
 (if (0 : Int) ≤ x6.1.2.2.2.2.1 ∧ x6.1.2.2.2.2.1 < (↑(ByteArray.size x6.1.1) : Int) then
 xepactref18_letter (Eng.bAt x6.1.1 (Int.toNat x6.1.2.2.2.2.1)) (fun r7 =>
 (if r7 = true then
 k5 ((x6.1.1, x6.1.2.1, x6.1.2.2.1, x6.1.2.2.2.1, w64 (x6.1.2.2.2.2.1 + (1 : Int)), ()), ())
 else
 (if (0 : Int) ≤ x6.1.2.2.2.2.1 ∧ x6.1.2.2.2.2.1 ≤ (↑(ByteArray.size x6.1.1) : Int) then
 (if (0 : Int) ≤ (0 : Int) ∧ (0 : Int) ≤ x6.1.2.2.2.2.1 then
 xepactref14_Right (ByteArray.extract x6.1.1 (0 : Nat) (Int.toNat x6.1.2.2.2.2.1)) (fun r8 =>
 (if (0 : Int) ≤ x6.1.2.2.2.2.1 ∧ x6.1.2.2.2.2.1 ≤ (↑(ByteArray.size x6.1.1) : Int) then
 (if (0 : Int) ≤ (0 : Int) ∧ (0 : Int) ≤ x6.1.2.2.2.2.1 then
 (if (0 : Int) ≤ (↑(ByteArray.size x6.1.1) : Int) ∧ (↑(ByteArray.size x6.1.1) : Int) ≤ (↑(ByteArray.size x6.1.1) : Int) then
 (if (0 : Int) ≤ x6.1.2.2.2.2.1 ∧ x6.1.2.2.2.2.1 ≤ (↑(ByteArray.size x6.1.1) : Int) then
 K (ByteArray.extract x6.1.1 (0 : Nat) (Int.toNat x6.1.2.2.2.2.1)) (ByteArray.extract x6.1.1 (Int.toNat x6.1.2.2.2.2.1) (Int.toNat (↑(ByteArray.size x6.1.1) : Int))) r8
 else
 False)
 else
 False)
 else
 False)
 else
 False))
 else
 False)
 else
 False)))
 else
 False)
 else
 (if (0 : Int) ≤ x6.1.2.2.2.2.1 ∧ x6.1.2.2.2.2.1 ≤ (↑(ByteArray.size x6.1.1) : Int) then
 (if (0 : Int) ≤ (0 : Int) ∧ (0 : Int) ≤ x6.1.2.2.2.2.1 then
 xepactref14_Right (ByteArray.extract x6.1.1 (0 : Nat) (Int.toNat x6.1.2.2.2.2.1)) (fun r9 =>
 (if (0 : Int) ≤ x6.1.2.2.2.2.1 ∧ x6.1.2.2.2.2.1 ≤ (↑(ByteArray.size x6.1.1) : Int) then
 (if (0 : Int) ≤ (0 : Int) ∧ (0 : Int) ≤ x6.1.2.2.2.2.1 then
 (if (0 : Int) ≤ (↑(ByteArray.size x6.1.1) : Int) ∧ (↑(ByteArray.size x6.1.1) : Int) ≤ (↑(ByteArray.size x6.1.1) : Int) then
 (if (0 : Int) ≤ x6.1.2.2.2.2.1 ∧ x6.1.2.2.2.2.1 ≤ (↑(ByteArray.size x6.1.1) : Int) then
 K (ByteArray.extract x6.1.1 (0 : Nat) (Int.toNat x6.1.2.2.2.2.1)) (ByteArray.extract x6.1.1 (Int.toNat x6.1.2.2.2.2.1) (Int.toNat (↑(ByteArray.size x6.1.1) : Int))) r9
 else
 False)
 else
 False)
 else
 False)
 else
 False))
 else
 False)
 else
 False))
def Lepactref18_name_0p : Lp := ⟨541, [.trim 541], (.cons 0 .str (.cons 2 .str (.cons 3 .str (.cons 4 .bool (.cons 9 (.int .i64) .nil))))), .nil, 0⟩
def Yepactref18_name (xepactref05_Cut : (ByteArray) → (ByteArray) → ((ByteArray) → (ByteArray) → (Bool) → Prop) → Prop) (xepactref14_Right : (ByteArray) → ((Bool) → Prop) → Prop) (xepactref18_letter : (Int) → ((Bool) → Prop) → Prop) (a0 : ByteArray) (K : (ByteArray) → (ByteArray) → (Bool) → Prop) : Prop :=
 (if decide ((↑(ByteArray.size a0) : Int) > (0 : Int)) = true then
 (if (0 : Int) ≤ (0 : Int) ∧ (0 : Int) < (↑(ByteArray.size a0) : Int) then
 (if (Eng.bAt a0 (0 : Nat) == (60 : Int)) = true then
 (if (0 : Int) ≤ (↑(ByteArray.size a0) : Int) ∧ (↑(ByteArray.size a0) : Int) ≤ (↑(ByteArray.size a0) : Int) then
 (if (0 : Int) ≤ (1 : Int) ∧ (1 : Int) ≤ (↑(ByteArray.size a0) : Int) then
 xepactref05_Cut (ByteArray.extract a0 (1 : Nat) (Int.toNat (↑(ByteArray.size a0) : Int))) (ByteArray.mk #[(62 : UInt8)]) (fun r1 r2 r3 =>
 xepactref14_Right r1 (fun r4 =>
 (if r3 = true then
 K r1 r2 r4
 else
 K r1 r2 false)))
 else
 False)
 else
 False)
 else
 lp (Lepactref18_name_0 xepactref18_letter xepactref14_Right K) ((a0, ByteArray.mk #[], ByteArray.mk #[], false, (0 : Int), ()), ()))
 else
 False)
 else
 lp (Lepactref18_name_1 xepactref18_letter xepactref14_Right K) ((a0, ByteArray.mk #[], ByteArray.mk #[], false, (0 : Int), ()), ()))
def Xepactref18_name (a0 : ByteArray) (K : (ByteArray) → (ByteArray) → (Bool) → Prop) : Prop := Yepactref18_name Xepactref05_Cut Xepactref14_Right Xepactref18_letter a0 K
def Jepactref18_name (X : (ByteArray) → ((ByteArray) → (ByteArray) → (Bool) → Prop) → Prop) : Inst := ⟨25, (.cons .str .nil), .nil, (.cons .str (.cons .str (.cons .bool .nil))), .nil, fun x y K => X x.1 (fun u0 u1 u2 => K (u0, (u1, (u2, ()))) ())⟩
def Iepactref18_name : Inst := Jepactref18_name Xepactref18_name
theorem Eepactref18_name (xepactref05_Cut : (ByteArray) → (ByteArray) → ((ByteArray) → (ByteArray) → (Bool) → Prop) → Prop) (xepactref14_Right : (ByteArray) → ((Bool) → Prop) → Prop) (xepactref18_letter : (Int) → ((Bool) → Prop) → Prop) (x : PL.T (.cons .str .nil)) (y : PH.T .nil) (K : PL.T (.cons .str (.cons .str (.cons .bool .nil))) → PH.T .nil → Prop) : Yepactref18_name xepactref05_Cut xepactref14_Right xepactref18_letter x.1 (fun u0 u1 u2 => K (u0, (u1, (u2, ()))) ()) = bodyC (envP Tryz.prog 57 gives ⟨tabC [Jepactref05_Cut xepactref05_Cut, Jepactref14_Right xepactref14_Right, Jepactref18_letter xepactref18_letter], tabL [Lepactref18_name_0p, Lepactref18_name_1p]⟩) Tryz.f25 (Tryz.f25.body.getD .skip) (PL.enc (.cons .str .nil) x) (PH.enc .nil y) (resK (.cons .str (.cons .str (.cons .bool .nil))) .nil K) := by kernel_rfl
theorem Iepactref18_name_ok : InstOk Tryz.prog G.1 Iepactref18_name := inst_ok (gives := gives) (is := [Iepactref05_Cut, Iepactref14_Right, Iepactref18_letter]) [Lepactref18_name_0p, Lepactref18_name_1p] (okCons Iepactref05_Cut_ok (okCons Iepactref14_Right_ok (okCons Iepactref18_letter_ok okNil))) 57 follows Tryz.func25 (by kernel_rfl) (fun x => by kernel_rfl) (fun x y K => Eepactref18_name Xepactref05_Cut Xepactref14_Right Xepactref18_letter x y K)

/- epact/epactref17.two -/
def Yepactref17_two (a0 : ByteArray) (K : (Int) → (ByteArray) → Prop) : Prop :=
 (if decide ((↑(ByteArray.size a0) : Int) < (3 : Int)) = true then
 K (-1 : Int) a0
 else
 (if (0 : Int) ≤ (0 : Int) ∧ (0 : Int) < (↑(ByteArray.size a0) : Int) then
 (if (Eng.bAt a0 (0 : Nat) != (58 : Int)) = true then
 K (-1 : Int) a0
 else
 (if (0 : Int) ≤ (1 : Int) ∧ (1 : Int) < (↑(ByteArray.size a0) : Int) then
 (if decide (Eng.bAt a0 (1 : Nat) < (48 : Int)) = true then
 K (-1 : Int) a0
 else
 (if (0 : Int) ≤ (1 : Int) ∧ (1 : Int) < (↑(ByteArray.size a0) : Int) then
 (if decide (Eng.bAt a0 (1 : Nat) > (53 : Int)) = true then
 K (-1 : Int) a0
 else
 (if (0 : Int) ≤ (2 : Int) ∧ (2 : Int) < (↑(ByteArray.size a0) : Int) then
 (if decide (Eng.bAt a0 (2 : Nat) < (48 : Int)) = true then
 K (-1 : Int) a0
 else
 (if (0 : Int) ≤ (2 : Int) ∧ (2 : Int) < (↑(ByteArray.size a0) : Int) then
 (if decide (Eng.bAt a0 (2 : Nat) > (57 : Int)) = true then
 K (-1 : Int) a0
 else
 (if (0 : Int) ≤ (1 : Int) ∧ (1 : Int) < (↑(ByteArray.size a0) : Int) then
 (lt (w64 (wu8 (Eng.bAt a0 (1 : Nat) - (48 : Int)))) fun v1 =>
 (if (0 : Int) ≤ (2 : Int) ∧ (2 : Int) < (↑(ByteArray.size a0) : Int) then
 (lt (w64 (wu8 (Eng.bAt a0 (2 : Nat) - (48 : Int)))) fun v2 =>
 (lt (w64 (w64 ((10 : Int) * v1) + v2)) fun v3 =>
 (if (0 : Int) ≤ (↑(ByteArray.size a0) : Int) ∧ (↑(ByteArray.size a0) : Int) ≤ (↑(ByteArray.size a0) : Int) then
 (if (0 : Int) ≤ (3 : Int) ∧ (3 : Int) ≤ (↑(ByteArray.size a0) : Int) then
 K v3 (ByteArray.extract a0 (3 : Nat) (Int.toNat (↑(ByteArray.size a0) : Int)))
 else
 False)
 else
 False)))
 else
 False))
 else
 False))
 else
 False))
 else
 False))
 else
 False))
 else
 False))
 else
 False))
def Xepactref17_two (a0 : ByteArray) (K : (Int) → (ByteArray) → Prop) : Prop := Yepactref17_two a0 K
def Jepactref17_two (X : (ByteArray) → ((Int) → (ByteArray) → Prop) → Prop) : Inst := ⟨53, (.cons .str .nil), .nil, (.cons (.int .i64) (.cons .str .nil)), .nil, fun x y K => X x.1 (fun u0 u1 => K (u0, (u1, ())) ())⟩
def Iepactref17_two : Inst := Jepactref17_two Xepactref17_two
theorem Eepactref17_two (x : PL.T (.cons .str .nil)) (y : PH.T .nil) (K : PL.T (.cons (.int .i64) (.cons .str .nil)) → PH.T .nil → Prop) : Yepactref17_two x.1 (fun u0 u1 => K (u0, (u1, ())) ()) = bodyC (envP Tryz.prog 45 gives ⟨tabC [], tabL []⟩) Tryz.f53 (Tryz.f53.body.getD .skip) (PL.enc (.cons .str .nil) x) (PH.enc .nil y) (resK (.cons (.int .i64) (.cons .str .nil)) .nil K) := by kernel_rfl
theorem Iepactref17_two_ok : InstOk Tryz.prog G.1 Iepactref17_two := inst_ok (gives := gives) (is := []) [] okNil 45 follows Tryz.func53 (by kernel_rfl) (fun x => by kernel_rfl) (fun x y K => Eepactref17_two x y K)

/- epact/epactref17.Time -/
def Lepactref17_Time_5 (xepactref17_two : (ByteArray) → ((Int) → (ByteArray) → Prop) → Prop) (K : (Int) → (ByteArray) → (Bool) → Prop) : ((ByteArray × Int × ByteArray × Bool × ByteArray × Int × Int × Int × Unit) × (Unit) → Prop) → (ByteArray × Int × ByteArray × Bool × ByteArray × Int × Int × Int × Unit) × (Unit) → Prop := fun k231 x232 =>
 (if decide (x232.1.2.2.2.2.2.2.1 < (↑(ByteArray.size x232.1.2.2.2.2.1) : Int)) = true then
 (if decide (x232.1.2.2.2.2.2.2.1 < (3 : Int)) = true then
 (if (0 : Int) ≤ x232.1.2.2.2.2.2.2.1 ∧ x232.1.2.2.2.2.2.2.1 < (↑(ByteArray.size x232.1.2.2.2.2.1) : Int) then
 (if decide (Eng.bAt x232.1.2.2.2.2.1 (Int.toNat x232.1.2.2.2.2.2.2.1) ≥ (48 : Int)) = true then
 (if (0 : Int) ≤ x232.1.2.2.2.2.2.2.1 ∧ x232.1.2.2.2.2.2.2.1 < (↑(ByteArray.size x232.1.2.2.2.2.1) : Int) then
 (if decide (Eng.bAt x232.1.2.2.2.2.1 (Int.toNat x232.1.2.2.2.2.2.2.1) ≤ (57 : Int)) = true then
 (if (0 : Int) ≤ x232.1.2.2.2.2.2.2.1 ∧ x232.1.2.2.2.2.2.2.1 < (↑(ByteArray.size x232.1.2.2.2.2.1) : Int) then
 (lt (w64 (wu8 (Eng.bAt x232.1.2.2.2.2.1 (Int.toNat x232.1.2.2.2.2.2.2.1) - (48 : Int)))) fun v233 =>
 (lt (w64 (w64 ((10 : Int) * x232.1.2.2.2.2.2.2.2.1) + v233)) fun v234 =>
 (if decide (v234 ≤ (167 : Int)) = true then
 (if (0 : Int) ≤ x232.1.2.2.2.2.2.2.1 ∧ x232.1.2.2.2.2.2.2.1 < (↑(ByteArray.size x232.1.2.2.2.2.1) : Int) then
 (lt (w64 (wu8 (Eng.bAt x232.1.2.2.2.2.1 (Int.toNat x232.1.2.2.2.2.2.2.1) - (48 : Int)))) fun v235 =>
 (lt (w64 (w64 ((10 : Int) * x232.1.2.2.2.2.2.2.2.1) + v235)) fun v236 =>
 k231 ((x232.1.1, x232.1.2.1, x232.1.2.2.1, x232.1.2.2.2.1, x232.1.2.2.2.2.1, x232.1.2.2.2.2.2.1, w64 (x232.1.2.2.2.2.2.2.1 + (1 : Int)), v236, ()), ())))
 else
 False)
 else
 (if (x232.1.2.2.2.2.2.2.1 == (0 : Int)) = true then
 K (0 : Int) x232.1.1 false
 else
 (if (0 : Int) ≤ (↑(ByteArray.size x232.1.2.2.2.2.1) : Int) ∧ (↑(ByteArray.size x232.1.2.2.2.2.1) : Int) ≤ (↑(ByteArray.size x232.1.2.2.2.2.1) : Int) then
 (if (0 : Int) ≤ x232.1.2.2.2.2.2.2.1 ∧ x232.1.2.2.2.2.2.2.1 ≤ (↑(ByteArray.size x232.1.2.2.2.2.1) : Int) then
 xepactref17_two (ByteArray.extract x232.1.2.2.2.2.1 (Int.toNat x232.1.2.2.2.2.2.2.1) (Int.toNat (↑(ByteArray.size x232.1.2.2.2.2.1) : Int))) (fun r237 r238 =>
 (if decide (r237 < (0 : Int)) = true then
 (lt (w64 (w64 (x232.1.2.2.2.2.2.1 * (3600 : Int)) * x232.1.2.2.2.2.2.2.2.1)) fun v239 =>
 K v239 (ByteArray.extract x232.1.2.2.2.2.1 (Int.toNat x232.1.2.2.2.2.2.2.1) (Int.toNat (↑(ByteArray.size x232.1.2.2.2.2.1) : Int))) true)
 else
 xepactref17_two r238 (fun r240 r241 =>
 (if decide (r240 < (0 : Int)) = true then
 (lt (w64 (w64 ((3600 : Int) * x232.1.2.2.2.2.2.2.2.1) + w64 ((60 : Int) * r237))) fun v242 =>
 K (w64 (x232.1.2.2.2.2.2.1 * v242)) r238 true)
 else
 (lt (w64 (w64 ((3600 : Int) * x232.1.2.2.2.2.2.2.2.1) + w64 ((60 : Int) * r237))) fun v243 =>
 (lt (w64 (x232.1.2.2.2.2.2.1 * w64 (v243 + r240))) fun v244 =>
 K v244 r241 true))))))
 else
 False)
 else
 False)))))
 else
 False)
 else
 (if (x232.1.2.2.2.2.2.2.1 == (0 : Int)) = true then
 K (0 : Int) x232.1.1 false
 else
 (if (0 : Int) ≤ (↑(ByteArray.size x232.1.2.2.2.2.1) : Int) ∧ (↑(ByteArray.size x232.1.2.2.2.2.1) : Int) ≤ (↑(ByteArray.size x232.1.2.2.2.2.1) : Int) then
 (if (0 : Int) ≤ x232.1.2.2.2.2.2.2.1 ∧ x232.1.2.2.2.2.2.2.1 ≤ (↑(ByteArray.size x232.1.2.2.2.2.1) : Int) then
 xepactref17_two (ByteArray.extract x232.1.2.2.2.2.1 (Int.toNat x232.1.2.2.2.2.2.2.1) (Int.toNat (↑(ByteArray.size x232.1.2.2.2.2.1) : Int))) (fun r245 r246 =>
 (if decide (r245 < (0 : Int)) = true then
 (lt (w64 (w64 (x232.1.2.2.2.2.2.1 * (3600 : Int)) * x232.1.2.2.2.2.2.2.2.1)) fun v247 =>
 K v247 (ByteArray.extract x232.1.2.2.2.2.1 (Int.toNat x232.1.2.2.2.2.2.2.1) (Int.toNat (↑(ByteArray.size x232.1.2.2.2.2.1) : Int))) true)
 else
 xepactref17_two r246 (fun r248 r249 =>
 (if decide (r248 < (0 : Int)) = true then
 (lt (w64 (w64 ((3600 : Int) * x232.1.2.2.2.2.2.2.2.1) + w64 ((60 : Int) * r245))) fun v250 =>
 K (w64 (x232.1.2.2.2.2.2.1 * v250)) r246 true)
 else
 (lt (w64 (w64 ((3600 : Int) * x232.1.2.2.2.2.2.2.2.1) + w64 ((60 : Int) * r245))) fun v251 =>
 (lt (w64 (x232.1.2.2.2.2.2.1 * w64 (v251 + r248))) fun v252 =>
 K v252 r249 true))))))
 else
 False)
 else
 False)))
 else
 False)
 else
 (if (x232.1.2.2.2.2.2.2.1 == (0 : Int)) = true then
 K (0 : Int) x232.1.1 false
 else
 (if (0 : Int) ≤ (↑(ByteArray.size x232.1.2.2.2.2.1) : Int) ∧ (↑(ByteArray.size x232.1.2.2.2.2.1) : Int) ≤ (↑(ByteArray.size x232.1.2.2.2.2.1) : Int) then
 (if (0 : Int) ≤ x232.1.2.2.2.2.2.2.1 ∧ x232.1.2.2.2.2.2.2.1 ≤ (↑(ByteArray.size x232.1.2.2.2.2.1) : Int) then
 xepactref17_two (ByteArray.extract x232.1.2.2.2.2.1 (Int.toNat x232.1.2.2.2.2.2.2.1) (Int.toNat (↑(ByteArray.size x232.1.2.2.2.2.1) : Int))) (fun r253 r254 =>
 (if decide (r253 < (0 : Int)) = true then
 (lt (w64 (w64 (x232.1.2.2.2.2.2.1 * (3600 : Int)) * x232.1.2.2.2.2.2.2.2.1)) fun v255 =>
 K v255 (ByteArray.extract x232.1.2.2.2.2.1 (Int.toNat x232.1.2.2.2.2.2.2.1) (Int.toNat (↑(ByteArray.size x232.1.2.2.2.2.1) : Int))) true)
 else
 xepactref17_two r254 (fun r256 r257 =>
 (if decide (r256 < (0 : Int)) = true then
 (lt (w64 (w64 ((3600 : Int) * x232.1.2.2.2.2.2.2.2.1) + w64 ((60 : Int) * r253))) fun v258 =>
 K (w64 (x232.1.2.2.2.2.2.1 * v258)) r254 true)
 else
 (lt (w64 (w64 ((3600 : Int) * x232.1.2.2.2.2.2.2.2.1) + w64 ((60 : Int) * r253))) fun v259 =>
 (lt (w64 (x232.1.2.2.2.2.2.1 * w64 (v259 + r256))) fun v260 =>
 K v260 r257 true))))))
 else
 False)
 else
 False)))
 else
 False)
 else
 (if (x232.1.2.2.2.2.2.2.1 == (0 : Int)) = true then
 K (0 : Int) x232.1.1 false
 else
 (if (0 : Int) ≤ (↑(ByteArray.size x232.1.2.2.2.2.1) : Int) ∧ (↑(ByteArray.size x232.1.2.2.2.2.1) : Int) ≤ (↑(ByteArray.size x232.1.2.2.2.2.1) : Int) then
 (if (0 : Int) ≤ x232.1.2.2.2.2.2.2.1 ∧ x232.1.2.2.2.2.2.2.1 ≤ (↑(ByteArray.size x232.1.2.2.2.2.1) : Int) then
 xepactref17_two (ByteArray.extract x232.1.2.2.2.2.1 (Int.toNat x232.1.2.2.2.2.2.2.1) (Int.toNat (↑(ByteArray.size x232.1.2.2.2.2.1) : Int))) (fun r261 r262 =>
 (if decide (r261 < (0 : Int)) = true then
 (lt (w64 (w64 (x232.1.2.2.2.2.2.1 * (3600 : Int)) * x232.1.2.2.2.2.2.2.2.1)) fun v263 =>
 K v263 (ByteArray.extract x232.1.2.2.2.2.1 (Int.toNat x232.1.2.2.2.2.2.2.1) (Int.toNat (↑(ByteArray.size x232.1.2.2.2.2.1) : Int))) true)
 else
 xepactref17_two r262 (fun r264 r265 =>
 (if decide (r264 < (0 : Int)) = true then
 (lt (w64 (w64 ((3600 : Int) * x232.1.2.2.2.2.2.2.2.1) + w64 ((60 : Int) * r261))) fun v266 =>
 K (w64 (x232.1.2.2.2.2.2.1 * v266)) r262 true)
 else
 (lt (w64 (w64 ((3600 : Int) * x232.1.2.2.2.2.2.2.2.1) + w64 ((60 : Int) * r261))) fun v267 =>
 (lt (w64 (x232.1.2.2.2.2.2.1 * w64 (v267 + r264))) fun v268 =>
 K v268 r265 true))))))
 else
 False)
 else
 False)))
 else
 (if (x232.1.2.2.2.2.2.2.1 == (0 : Int)) = true then
 K (0 : Int) x232.1.1 false
 else
 (if (0 : Int) ≤ (↑(ByteArray.size x232.1.2.2.2.2.1) : Int) ∧ (↑(ByteArray.size x232.1.2.2.2.2.1) : Int) ≤ (↑(ByteArray.size x232.1.2.2.2.2.1) : Int) then
 (if (0 : Int) ≤ x232.1.2.2.2.2.2.2.1 ∧ x232.1.2.2.2.2.2.2.1 ≤ (↑(ByteArray.size x232.1.2.2.2.2.1) : Int) then
 xepactref17_two (ByteArray.extract x232.1.2.2.2.2.1 (Int.toNat x232.1.2.2.2.2.2.2.1) (Int.toNat (↑(ByteArray.size x232.1.2.2.2.2.1) : Int))) (fun r269 r270 =>
 (if decide (r269 < (0 : Int)) = true then
 (lt (w64 (w64 (x232.1.2.2.2.2.2.1 * (3600 : Int)) * x232.1.2.2.2.2.2.2.2.1)) fun v271 =>
 K v271 (ByteArray.extract x232.1.2.2.2.2.1 (Int.toNat x232.1.2.2.2.2.2.2.1) (Int.toNat (↑(ByteArray.size x232.1.2.2.2.2.1) : Int))) true)
 else
 xepactref17_two r270 (fun r272 r273 =>
 (if decide (r272 < (0 : Int)) = true then
 (lt (w64 (w64 ((3600 : Int) * x232.1.2.2.2.2.2.2.2.1) + w64 ((60 : Int) * r269))) fun v274 =>
 K (w64 (x232.1.2.2.2.2.2.1 * v274)) r270 true)
 else
 (lt (w64 (w64 ((3600 : Int) * x232.1.2.2.2.2.2.2.2.1) + w64 ((60 : Int) * r269))) fun v275 =>
 (lt (w64 (x232.1.2.2.2.2.2.1 * w64 (v275 + r272))) fun v276 =>
 K v276 r273 true))))))
 else
 False)
 else
 False)))
def Lepactref17_Time_5p : Lp := ⟨509, [.trim 509], (.cons 0 .str (.cons 2 (.int .i64) (.cons 3 .str (.cons 4 .bool (.cons 5 .str (.cons 6 (.int .i64) (.cons 7 (.int .i64) (.cons 8 (.int .i64) .nil)))))))), .nil, 0⟩
def Lepactref17_Time_4 (xepactref17_two : (ByteArray) → ((Int) → (ByteArray) → Prop) → Prop) (K : (Int) → (ByteArray) → (Bool) → Prop) : ((ByteArray × Int × ByteArray × Bool × ByteArray × Int × Int × Int × Unit) × (Unit) → Prop) → (ByteArray × Int × ByteArray × Bool × ByteArray × Int × Int × Int × Unit) × (Unit) → Prop := fun k185 x186 =>
 (if decide (x186.1.2.2.2.2.2.2.1 < (↑(ByteArray.size x186.1.2.2.2.2.1) : Int)) = true then
 (if decide (x186.1.2.2.2.2.2.2.1 < (3 : Int)) = true then
 (if (0 : Int) ≤ x186.1.2.2.2.2.2.2.1 ∧ x186.1.2.2.2.2.2.2.1 < (↑(ByteArray.size x186.1.2.2.2.2.1) : Int) then
 (if decide (Eng.bAt x186.1.2.2.2.2.1 (Int.toNat x186.1.2.2.2.2.2.2.1) ≥ (48 : Int)) = true then
 (if (0 : Int) ≤ x186.1.2.2.2.2.2.2.1 ∧ x186.1.2.2.2.2.2.2.1 < (↑(ByteArray.size x186.1.2.2.2.2.1) : Int) then
 (if decide (Eng.bAt x186.1.2.2.2.2.1 (Int.toNat x186.1.2.2.2.2.2.2.1) ≤ (57 : Int)) = true then
 (if (0 : Int) ≤ x186.1.2.2.2.2.2.2.1 ∧ x186.1.2.2.2.2.2.2.1 < (↑(ByteArray.size x186.1.2.2.2.2.1) : Int) then
 (lt (w64 (wu8 (Eng.bAt x186.1.2.2.2.2.1 (Int.toNat x186.1.2.2.2.2.2.2.1) - (48 : Int)))) fun v187 =>
 (lt (w64 (w64 ((10 : Int) * x186.1.2.2.2.2.2.2.2.1) + v187)) fun v188 =>
 (if decide (v188 ≤ (167 : Int)) = true then
 (if (0 : Int) ≤ x186.1.2.2.2.2.2.2.1 ∧ x186.1.2.2.2.2.2.2.1 < (↑(ByteArray.size x186.1.2.2.2.2.1) : Int) then
 (lt (w64 (wu8 (Eng.bAt x186.1.2.2.2.2.1 (Int.toNat x186.1.2.2.2.2.2.2.1) - (48 : Int)))) fun v189 =>
 (lt (w64 (w64 ((10 : Int) * x186.1.2.2.2.2.2.2.2.1) + v189)) fun v190 =>
 k185 ((x186.1.1, x186.1.2.1, x186.1.2.2.1, x186.1.2.2.2.1, x186.1.2.2.2.2.1, x186.1.2.2.2.2.2.1, w64 (x186.1.2.2.2.2.2.2.1 + (1 : Int)), v190, ()), ())))
 else
 False)
 else
 (if (x186.1.2.2.2.2.2.2.1 == (0 : Int)) = true then
 K (0 : Int) x186.1.1 false
 else
 (if (0 : Int) ≤ (↑(ByteArray.size x186.1.2.2.2.2.1) : Int) ∧ (↑(ByteArray.size x186.1.2.2.2.2.1) : Int) ≤ (↑(ByteArray.size x186.1.2.2.2.2.1) : Int) then
 (if (0 : Int) ≤ x186.1.2.2.2.2.2.2.1 ∧ x186.1.2.2.2.2.2.2.1 ≤ (↑(ByteArray.size x186.1.2.2.2.2.1) : Int) then
 xepactref17_two (ByteArray.extract x186.1.2.2.2.2.1 (Int.toNat x186.1.2.2.2.2.2.2.1) (Int.toNat (↑(ByteArray.size x186.1.2.2.2.2.1) : Int))) (fun r191 r192 =>
 (if decide (r191 < (0 : Int)) = true then
 (lt (w64 (w64 (x186.1.2.2.2.2.2.1 * (3600 : Int)) * x186.1.2.2.2.2.2.2.2.1)) fun v193 =>
 K v193 (ByteArray.extract x186.1.2.2.2.2.1 (Int.toNat x186.1.2.2.2.2.2.2.1) (Int.toNat (↑(ByteArray.size x186.1.2.2.2.2.1) : Int))) true)
 else
 xepactref17_two r192 (fun r194 r195 =>
 (if decide (r194 < (0 : Int)) = true then
 (lt (w64 (w64 ((3600 : Int) * x186.1.2.2.2.2.2.2.2.1) + w64 ((60 : Int) * r191))) fun v196 =>
 K (w64 (x186.1.2.2.2.2.2.1 * v196)) r192 true)
 else
 (lt (w64 (w64 ((3600 : Int) * x186.1.2.2.2.2.2.2.2.1) + w64 ((60 : Int) * r191))) fun v197 =>
 (lt (w64 (x186.1.2.2.2.2.2.1 * w64 (v197 + r194))) fun v198 =>
 K v198 r195 true))))))
 else
 False)
 else
 False)))))
 else
 False)
 else
 (if (x186.1.2.2.2.2.2.2.1 == (0 : Int)) = true then
 K (0 : Int) x186.1.1 false
 else
 (if (0 : Int) ≤ (↑(ByteArray.size x186.1.2.2.2.2.1) : Int) ∧ (↑(ByteArray.size x186.1.2.2.2.2.1) : Int) ≤ (↑(ByteArray.size x186.1.2.2.2.2.1) : Int) then
 (if (0 : Int) ≤ x186.1.2.2.2.2.2.2.1 ∧ x186.1.2.2.2.2.2.2.1 ≤ (↑(ByteArray.size x186.1.2.2.2.2.1) : Int) then
 xepactref17_two (ByteArray.extract x186.1.2.2.2.2.1 (Int.toNat x186.1.2.2.2.2.2.2.1) (Int.toNat (↑(ByteArray.size x186.1.2.2.2.2.1) : Int))) (fun r199 r200 =>
 (if decide (r199 < (0 : Int)) = true then
 (lt (w64 (w64 (x186.1.2.2.2.2.2.1 * (3600 : Int)) * x186.1.2.2.2.2.2.2.2.1)) fun v201 =>
 K v201 (ByteArray.extract x186.1.2.2.2.2.1 (Int.toNat x186.1.2.2.2.2.2.2.1) (Int.toNat (↑(ByteArray.size x186.1.2.2.2.2.1) : Int))) true)
 else
 xepactref17_two r200 (fun r202 r203 =>
 (if decide (r202 < (0 : Int)) = true then
 (lt (w64 (w64 ((3600 : Int) * x186.1.2.2.2.2.2.2.2.1) + w64 ((60 : Int) * r199))) fun v204 =>
 K (w64 (x186.1.2.2.2.2.2.1 * v204)) r200 true)
 else
 (lt (w64 (w64 ((3600 : Int) * x186.1.2.2.2.2.2.2.2.1) + w64 ((60 : Int) * r199))) fun v205 =>
 (lt (w64 (x186.1.2.2.2.2.2.1 * w64 (v205 + r202))) fun v206 =>
 K v206 r203 true))))))
 else
 False)
 else
 False)))
 else
 False)
 else
 (if (x186.1.2.2.2.2.2.2.1 == (0 : Int)) = true then
 K (0 : Int) x186.1.1 false
 else
 (if (0 : Int) ≤ (↑(ByteArray.size x186.1.2.2.2.2.1) : Int) ∧ (↑(ByteArray.size x186.1.2.2.2.2.1) : Int) ≤ (↑(ByteArray.size x186.1.2.2.2.2.1) : Int) then
 (if (0 : Int) ≤ x186.1.2.2.2.2.2.2.1 ∧ x186.1.2.2.2.2.2.2.1 ≤ (↑(ByteArray.size x186.1.2.2.2.2.1) : Int) then
 xepactref17_two (ByteArray.extract x186.1.2.2.2.2.1 (Int.toNat x186.1.2.2.2.2.2.2.1) (Int.toNat (↑(ByteArray.size x186.1.2.2.2.2.1) : Int))) (fun r207 r208 =>
 (if decide (r207 < (0 : Int)) = true then
 (lt (w64 (w64 (x186.1.2.2.2.2.2.1 * (3600 : Int)) * x186.1.2.2.2.2.2.2.2.1)) fun v209 =>
 K v209 (ByteArray.extract x186.1.2.2.2.2.1 (Int.toNat x186.1.2.2.2.2.2.2.1) (Int.toNat (↑(ByteArray.size x186.1.2.2.2.2.1) : Int))) true)
 else
 xepactref17_two r208 (fun r210 r211 =>
 (if decide (r210 < (0 : Int)) = true then
 (lt (w64 (w64 ((3600 : Int) * x186.1.2.2.2.2.2.2.2.1) + w64 ((60 : Int) * r207))) fun v212 =>
 K (w64 (x186.1.2.2.2.2.2.1 * v212)) r208 true)
 else
 (lt (w64 (w64 ((3600 : Int) * x186.1.2.2.2.2.2.2.2.1) + w64 ((60 : Int) * r207))) fun v213 =>
 (lt (w64 (x186.1.2.2.2.2.2.1 * w64 (v213 + r210))) fun v214 =>
 K v214 r211 true))))))
 else
 False)
 else
 False)))
 else
 False)
 else
 (if (x186.1.2.2.2.2.2.2.1 == (0 : Int)) = true then
 K (0 : Int) x186.1.1 false
 else
 (if (0 : Int) ≤ (↑(ByteArray.size x186.1.2.2.2.2.1) : Int) ∧ (↑(ByteArray.size x186.1.2.2.2.2.1) : Int) ≤ (↑(ByteArray.size x186.1.2.2.2.2.1) : Int) then
 (if (0 : Int) ≤ x186.1.2.2.2.2.2.2.1 ∧ x186.1.2.2.2.2.2.2.1 ≤ (↑(ByteArray.size x186.1.2.2.2.2.1) : Int) then
 xepactref17_two (ByteArray.extract x186.1.2.2.2.2.1 (Int.toNat x186.1.2.2.2.2.2.2.1) (Int.toNat (↑(ByteArray.size x186.1.2.2.2.2.1) : Int))) (fun r215 r216 =>
 (if decide (r215 < (0 : Int)) = true then
 (lt (w64 (w64 (x186.1.2.2.2.2.2.1 * (3600 : Int)) * x186.1.2.2.2.2.2.2.2.1)) fun v217 =>
 K v217 (ByteArray.extract x186.1.2.2.2.2.1 (Int.toNat x186.1.2.2.2.2.2.2.1) (Int.toNat (↑(ByteArray.size x186.1.2.2.2.2.1) : Int))) true)
 else
 xepactref17_two r216 (fun r218 r219 =>
 (if decide (r218 < (0 : Int)) = true then
 (lt (w64 (w64 ((3600 : Int) * x186.1.2.2.2.2.2.2.2.1) + w64 ((60 : Int) * r215))) fun v220 =>
 K (w64 (x186.1.2.2.2.2.2.1 * v220)) r216 true)
 else
 (lt (w64 (w64 ((3600 : Int) * x186.1.2.2.2.2.2.2.2.1) + w64 ((60 : Int) * r215))) fun v221 =>
 (lt (w64 (x186.1.2.2.2.2.2.1 * w64 (v221 + r218))) fun v222 =>
 K v222 r219 true))))))
 else
 False)
 else
 False)))
 else
 (if (x186.1.2.2.2.2.2.2.1 == (0 : Int)) = true then
 K (0 : Int) x186.1.1 false
 else
 (if (0 : Int) ≤ (↑(ByteArray.size x186.1.2.2.2.2.1) : Int) ∧ (↑(ByteArray.size x186.1.2.2.2.2.1) : Int) ≤ (↑(ByteArray.size x186.1.2.2.2.2.1) : Int) then
 (if (0 : Int) ≤ x186.1.2.2.2.2.2.2.1 ∧ x186.1.2.2.2.2.2.2.1 ≤ (↑(ByteArray.size x186.1.2.2.2.2.1) : Int) then
 xepactref17_two (ByteArray.extract x186.1.2.2.2.2.1 (Int.toNat x186.1.2.2.2.2.2.2.1) (Int.toNat (↑(ByteArray.size x186.1.2.2.2.2.1) : Int))) (fun r223 r224 =>
 (if decide (r223 < (0 : Int)) = true then
 (lt (w64 (w64 (x186.1.2.2.2.2.2.1 * (3600 : Int)) * x186.1.2.2.2.2.2.2.2.1)) fun v225 =>
 K v225 (ByteArray.extract x186.1.2.2.2.2.1 (Int.toNat x186.1.2.2.2.2.2.2.1) (Int.toNat (↑(ByteArray.size x186.1.2.2.2.2.1) : Int))) true)
 else
 xepactref17_two r224 (fun r226 r227 =>
 (if decide (r226 < (0 : Int)) = true then
 (lt (w64 (w64 ((3600 : Int) * x186.1.2.2.2.2.2.2.2.1) + w64 ((60 : Int) * r223))) fun v228 =>
 K (w64 (x186.1.2.2.2.2.2.1 * v228)) r224 true)
 else
 (lt (w64 (w64 ((3600 : Int) * x186.1.2.2.2.2.2.2.2.1) + w64 ((60 : Int) * r223))) fun v229 =>
 (lt (w64 (x186.1.2.2.2.2.2.1 * w64 (v229 + r226))) fun v230 =>
 K v230 r227 true))))))
 else
 False)
 else
 False)))
def Lepactref17_Time_4p : Lp := ⟨509, [.trim 509], (.cons 0 .str (.cons 2 (.int .i64) (.cons 3 .str (.cons 4 .bool (.cons 5 .str (.cons 6 (.int .i64) (.cons 7 (.int .i64) (.cons 8 (.int .i64) .nil)))))))), .nil, 0⟩
def Lepactref17_Time_3 (xepactref17_two : (ByteArray) → ((Int) → (ByteArray) → Prop) → Prop) (K : (Int) → (ByteArray) → (Bool) → Prop) : ((ByteArray × Int × ByteArray × Bool × ByteArray × Int × Int × Int × Unit) × (Unit) → Prop) → (ByteArray × Int × ByteArray × Bool × ByteArray × Int × Int × Int × Unit) × (Unit) → Prop := fun k139 x140 =>
 (if decide (x140.1.2.2.2.2.2.2.1 < (↑(ByteArray.size x140.1.2.2.2.2.1) : Int)) = true then
 (if decide (x140.1.2.2.2.2.2.2.1 < (3 : Int)) = true then
 (if (0 : Int) ≤ x140.1.2.2.2.2.2.2.1 ∧ x140.1.2.2.2.2.2.2.1 < (↑(ByteArray.size x140.1.2.2.2.2.1) : Int) then
 (if decide (Eng.bAt x140.1.2.2.2.2.1 (Int.toNat x140.1.2.2.2.2.2.2.1) ≥ (48 : Int)) = true then
 (if (0 : Int) ≤ x140.1.2.2.2.2.2.2.1 ∧ x140.1.2.2.2.2.2.2.1 < (↑(ByteArray.size x140.1.2.2.2.2.1) : Int) then
 (if decide (Eng.bAt x140.1.2.2.2.2.1 (Int.toNat x140.1.2.2.2.2.2.2.1) ≤ (57 : Int)) = true then
 (if (0 : Int) ≤ x140.1.2.2.2.2.2.2.1 ∧ x140.1.2.2.2.2.2.2.1 < (↑(ByteArray.size x140.1.2.2.2.2.1) : Int) then
 (lt (w64 (wu8 (Eng.bAt x140.1.2.2.2.2.1 (Int.toNat x140.1.2.2.2.2.2.2.1) - (48 : Int)))) fun v141 =>
 (lt (w64 (w64 ((10 : Int) * x140.1.2.2.2.2.2.2.2.1) + v141)) fun v142 =>
 (if decide (v142 ≤ (167 : Int)) = true then
 (if (0 : Int) ≤ x140.1.2.2.2.2.2.2.1 ∧ x140.1.2.2.2.2.2.2.1 < (↑(ByteArray.size x140.1.2.2.2.2.1) : Int) then
 (lt (w64 (wu8 (Eng.bAt x140.1.2.2.2.2.1 (Int.toNat x140.1.2.2.2.2.2.2.1) - (48 : Int)))) fun v143 =>
 (lt (w64 (w64 ((10 : Int) * x140.1.2.2.2.2.2.2.2.1) + v143)) fun v144 =>
 k139 ((x140.1.1, x140.1.2.1, x140.1.2.2.1, x140.1.2.2.2.1, x140.1.2.2.2.2.1, x140.1.2.2.2.2.2.1, w64 (x140.1.2.2.2.2.2.2.1 + (1 : Int)), v144, ()), ())))
 else
 False)
 else
 (if (x140.1.2.2.2.2.2.2.1 == (0 : Int)) = true then
 K (0 : Int) x140.1.1 false
 else
 (if (0 : Int) ≤ (↑(ByteArray.size x140.1.2.2.2.2.1) : Int) ∧ (↑(ByteArray.size x140.1.2.2.2.2.1) : Int) ≤ (↑(ByteArray.size x140.1.2.2.2.2.1) : Int) then
 (if (0 : Int) ≤ x140.1.2.2.2.2.2.2.1 ∧ x140.1.2.2.2.2.2.2.1 ≤ (↑(ByteArray.size x140.1.2.2.2.2.1) : Int) then
 xepactref17_two (ByteArray.extract x140.1.2.2.2.2.1 (Int.toNat x140.1.2.2.2.2.2.2.1) (Int.toNat (↑(ByteArray.size x140.1.2.2.2.2.1) : Int))) (fun r145 r146 =>
 (if decide (r145 < (0 : Int)) = true then
 (lt (w64 (w64 (x140.1.2.2.2.2.2.1 * (3600 : Int)) * x140.1.2.2.2.2.2.2.2.1)) fun v147 =>
 K v147 (ByteArray.extract x140.1.2.2.2.2.1 (Int.toNat x140.1.2.2.2.2.2.2.1) (Int.toNat (↑(ByteArray.size x140.1.2.2.2.2.1) : Int))) true)
 else
 xepactref17_two r146 (fun r148 r149 =>
 (if decide (r148 < (0 : Int)) = true then
 (lt (w64 (w64 ((3600 : Int) * x140.1.2.2.2.2.2.2.2.1) + w64 ((60 : Int) * r145))) fun v150 =>
 K (w64 (x140.1.2.2.2.2.2.1 * v150)) r146 true)
 else
 (lt (w64 (w64 ((3600 : Int) * x140.1.2.2.2.2.2.2.2.1) + w64 ((60 : Int) * r145))) fun v151 =>
 (lt (w64 (x140.1.2.2.2.2.2.1 * w64 (v151 + r148))) fun v152 =>
 K v152 r149 true))))))
 else
 False)
 else
 False)))))
 else
 False)
 else
 (if (x140.1.2.2.2.2.2.2.1 == (0 : Int)) = true then
 K (0 : Int) x140.1.1 false
 else
 (if (0 : Int) ≤ (↑(ByteArray.size x140.1.2.2.2.2.1) : Int) ∧ (↑(ByteArray.size x140.1.2.2.2.2.1) : Int) ≤ (↑(ByteArray.size x140.1.2.2.2.2.1) : Int) then
 (if (0 : Int) ≤ x140.1.2.2.2.2.2.2.1 ∧ x140.1.2.2.2.2.2.2.1 ≤ (↑(ByteArray.size x140.1.2.2.2.2.1) : Int) then
 xepactref17_two (ByteArray.extract x140.1.2.2.2.2.1 (Int.toNat x140.1.2.2.2.2.2.2.1) (Int.toNat (↑(ByteArray.size x140.1.2.2.2.2.1) : Int))) (fun r153 r154 =>
 (if decide (r153 < (0 : Int)) = true then
 (lt (w64 (w64 (x140.1.2.2.2.2.2.1 * (3600 : Int)) * x140.1.2.2.2.2.2.2.2.1)) fun v155 =>
 K v155 (ByteArray.extract x140.1.2.2.2.2.1 (Int.toNat x140.1.2.2.2.2.2.2.1) (Int.toNat (↑(ByteArray.size x140.1.2.2.2.2.1) : Int))) true)
 else
 xepactref17_two r154 (fun r156 r157 =>
 (if decide (r156 < (0 : Int)) = true then
 (lt (w64 (w64 ((3600 : Int) * x140.1.2.2.2.2.2.2.2.1) + w64 ((60 : Int) * r153))) fun v158 =>
 K (w64 (x140.1.2.2.2.2.2.1 * v158)) r154 true)
 else
 (lt (w64 (w64 ((3600 : Int) * x140.1.2.2.2.2.2.2.2.1) + w64 ((60 : Int) * r153))) fun v159 =>
 (lt (w64 (x140.1.2.2.2.2.2.1 * w64 (v159 + r156))) fun v160 =>
 K v160 r157 true))))))
 else
 False)
 else
 False)))
 else
 False)
 else
 (if (x140.1.2.2.2.2.2.2.1 == (0 : Int)) = true then
 K (0 : Int) x140.1.1 false
 else
 (if (0 : Int) ≤ (↑(ByteArray.size x140.1.2.2.2.2.1) : Int) ∧ (↑(ByteArray.size x140.1.2.2.2.2.1) : Int) ≤ (↑(ByteArray.size x140.1.2.2.2.2.1) : Int) then
 (if (0 : Int) ≤ x140.1.2.2.2.2.2.2.1 ∧ x140.1.2.2.2.2.2.2.1 ≤ (↑(ByteArray.size x140.1.2.2.2.2.1) : Int) then
 xepactref17_two (ByteArray.extract x140.1.2.2.2.2.1 (Int.toNat x140.1.2.2.2.2.2.2.1) (Int.toNat (↑(ByteArray.size x140.1.2.2.2.2.1) : Int))) (fun r161 r162 =>
 (if decide (r161 < (0 : Int)) = true then
 (lt (w64 (w64 (x140.1.2.2.2.2.2.1 * (3600 : Int)) * x140.1.2.2.2.2.2.2.2.1)) fun v163 =>
 K v163 (ByteArray.extract x140.1.2.2.2.2.1 (Int.toNat x140.1.2.2.2.2.2.2.1) (Int.toNat (↑(ByteArray.size x140.1.2.2.2.2.1) : Int))) true)
 else
 xepactref17_two r162 (fun r164 r165 =>
 (if decide (r164 < (0 : Int)) = true then
 (lt (w64 (w64 ((3600 : Int) * x140.1.2.2.2.2.2.2.2.1) + w64 ((60 : Int) * r161))) fun v166 =>
 K (w64 (x140.1.2.2.2.2.2.1 * v166)) r162 true)
 else
 (lt (w64 (w64 ((3600 : Int) * x140.1.2.2.2.2.2.2.2.1) + w64 ((60 : Int) * r161))) fun v167 =>
 (lt (w64 (x140.1.2.2.2.2.2.1 * w64 (v167 + r164))) fun v168 =>
 K v168 r165 true))))))
 else
 False)
 else
 False)))
 else
 False)
 else
 (if (x140.1.2.2.2.2.2.2.1 == (0 : Int)) = true then
 K (0 : Int) x140.1.1 false
 else
 (if (0 : Int) ≤ (↑(ByteArray.size x140.1.2.2.2.2.1) : Int) ∧ (↑(ByteArray.size x140.1.2.2.2.2.1) : Int) ≤ (↑(ByteArray.size x140.1.2.2.2.2.1) : Int) then
 (if (0 : Int) ≤ x140.1.2.2.2.2.2.2.1 ∧ x140.1.2.2.2.2.2.2.1 ≤ (↑(ByteArray.size x140.1.2.2.2.2.1) : Int) then
 xepactref17_two (ByteArray.extract x140.1.2.2.2.2.1 (Int.toNat x140.1.2.2.2.2.2.2.1) (Int.toNat (↑(ByteArray.size x140.1.2.2.2.2.1) : Int))) (fun r169 r170 =>
 (if decide (r169 < (0 : Int)) = true then
 (lt (w64 (w64 (x140.1.2.2.2.2.2.1 * (3600 : Int)) * x140.1.2.2.2.2.2.2.2.1)) fun v171 =>
 K v171 (ByteArray.extract x140.1.2.2.2.2.1 (Int.toNat x140.1.2.2.2.2.2.2.1) (Int.toNat (↑(ByteArray.size x140.1.2.2.2.2.1) : Int))) true)
 else
 xepactref17_two r170 (fun r172 r173 =>
 (if decide (r172 < (0 : Int)) = true then
 (lt (w64 (w64 ((3600 : Int) * x140.1.2.2.2.2.2.2.2.1) + w64 ((60 : Int) * r169))) fun v174 =>
 K (w64 (x140.1.2.2.2.2.2.1 * v174)) r170 true)
 else
 (lt (w64 (w64 ((3600 : Int) * x140.1.2.2.2.2.2.2.2.1) + w64 ((60 : Int) * r169))) fun v175 =>
 (lt (w64 (x140.1.2.2.2.2.2.1 * w64 (v175 + r172))) fun v176 =>
 K v176 r173 true))))))
 else
 False)
 else
 False)))
 else
 (if (x140.1.2.2.2.2.2.2.1 == (0 : Int)) = true then
 K (0 : Int) x140.1.1 false
 else
 (if (0 : Int) ≤ (↑(ByteArray.size x140.1.2.2.2.2.1) : Int) ∧ (↑(ByteArray.size x140.1.2.2.2.2.1) : Int) ≤ (↑(ByteArray.size x140.1.2.2.2.2.1) : Int) then
 (if (0 : Int) ≤ x140.1.2.2.2.2.2.2.1 ∧ x140.1.2.2.2.2.2.2.1 ≤ (↑(ByteArray.size x140.1.2.2.2.2.1) : Int) then
 xepactref17_two (ByteArray.extract x140.1.2.2.2.2.1 (Int.toNat x140.1.2.2.2.2.2.2.1) (Int.toNat (↑(ByteArray.size x140.1.2.2.2.2.1) : Int))) (fun r177 r178 =>
 (if decide (r177 < (0 : Int)) = true then
 (lt (w64 (w64 (x140.1.2.2.2.2.2.1 * (3600 : Int)) * x140.1.2.2.2.2.2.2.2.1)) fun v179 =>
 K v179 (ByteArray.extract x140.1.2.2.2.2.1 (Int.toNat x140.1.2.2.2.2.2.2.1) (Int.toNat (↑(ByteArray.size x140.1.2.2.2.2.1) : Int))) true)
 else
 xepactref17_two r178 (fun r180 r181 =>
 (if decide (r180 < (0 : Int)) = true then
 (lt (w64 (w64 ((3600 : Int) * x140.1.2.2.2.2.2.2.2.1) + w64 ((60 : Int) * r177))) fun v182 =>
 K (w64 (x140.1.2.2.2.2.2.1 * v182)) r178 true)
 else
 (lt (w64 (w64 ((3600 : Int) * x140.1.2.2.2.2.2.2.2.1) + w64 ((60 : Int) * r177))) fun v183 =>
 (lt (w64 (x140.1.2.2.2.2.2.1 * w64 (v183 + r180))) fun v184 =>
 K v184 r181 true))))))
 else
 False)
 else
 False)))
def Lepactref17_Time_3p : Lp := ⟨509, [.trim 509], (.cons 0 .str (.cons 2 (.int .i64) (.cons 3 .str (.cons 4 .bool (.cons 5 .str (.cons 6 (.int .i64) (.cons 7 (.int .i64) (.cons 8 (.int .i64) .nil)))))))), .nil, 0⟩
def Lepactref17_Time_2 (xepactref17_two : (ByteArray) → ((Int) → (ByteArray) → Prop) → Prop) (K : (Int) → (ByteArray) → (Bool) → Prop) : ((ByteArray × Int × ByteArray × Bool × ByteArray × Int × Int × Int × Unit) × (Unit) → Prop) → (ByteArray × Int × ByteArray × Bool × ByteArray × Int × Int × Int × Unit) × (Unit) → Prop := fun k93 x94 =>
 (if decide (x94.1.2.2.2.2.2.2.1 < (↑(ByteArray.size x94.1.2.2.2.2.1) : Int)) = true then
 (if decide (x94.1.2.2.2.2.2.2.1 < (3 : Int)) = true then
 (if (0 : Int) ≤ x94.1.2.2.2.2.2.2.1 ∧ x94.1.2.2.2.2.2.2.1 < (↑(ByteArray.size x94.1.2.2.2.2.1) : Int) then
 (if decide (Eng.bAt x94.1.2.2.2.2.1 (Int.toNat x94.1.2.2.2.2.2.2.1) ≥ (48 : Int)) = true then
 (if (0 : Int) ≤ x94.1.2.2.2.2.2.2.1 ∧ x94.1.2.2.2.2.2.2.1 < (↑(ByteArray.size x94.1.2.2.2.2.1) : Int) then
 (if decide (Eng.bAt x94.1.2.2.2.2.1 (Int.toNat x94.1.2.2.2.2.2.2.1) ≤ (57 : Int)) = true then
 (if (0 : Int) ≤ x94.1.2.2.2.2.2.2.1 ∧ x94.1.2.2.2.2.2.2.1 < (↑(ByteArray.size x94.1.2.2.2.2.1) : Int) then
 (lt (w64 (wu8 (Eng.bAt x94.1.2.2.2.2.1 (Int.toNat x94.1.2.2.2.2.2.2.1) - (48 : Int)))) fun v95 =>
 (lt (w64 (w64 ((10 : Int) * x94.1.2.2.2.2.2.2.2.1) + v95)) fun v96 =>
 (if decide (v96 ≤ (167 : Int)) = true then
 (if (0 : Int) ≤ x94.1.2.2.2.2.2.2.1 ∧ x94.1.2.2.2.2.2.2.1 < (↑(ByteArray.size x94.1.2.2.2.2.1) : Int) then
 (lt (w64 (wu8 (Eng.bAt x94.1.2.2.2.2.1 (Int.toNat x94.1.2.2.2.2.2.2.1) - (48 : Int)))) fun v97 =>
 (lt (w64 (w64 ((10 : Int) * x94.1.2.2.2.2.2.2.2.1) + v97)) fun v98 =>
 k93 ((x94.1.1, x94.1.2.1, x94.1.2.2.1, x94.1.2.2.2.1, x94.1.2.2.2.2.1, x94.1.2.2.2.2.2.1, w64 (x94.1.2.2.2.2.2.2.1 + (1 : Int)), v98, ()), ())))
 else
 False)
 else
 (if (x94.1.2.2.2.2.2.2.1 == (0 : Int)) = true then
 K (0 : Int) x94.1.1 false
 else
 (if (0 : Int) ≤ (↑(ByteArray.size x94.1.2.2.2.2.1) : Int) ∧ (↑(ByteArray.size x94.1.2.2.2.2.1) : Int) ≤ (↑(ByteArray.size x94.1.2.2.2.2.1) : Int) then
 (if (0 : Int) ≤ x94.1.2.2.2.2.2.2.1 ∧ x94.1.2.2.2.2.2.2.1 ≤ (↑(ByteArray.size x94.1.2.2.2.2.1) : Int) then
 xepactref17_two (ByteArray.extract x94.1.2.2.2.2.1 (Int.toNat x94.1.2.2.2.2.2.2.1) (Int.toNat (↑(ByteArray.size x94.1.2.2.2.2.1) : Int))) (fun r99 r100 =>
 (if decide (r99 < (0 : Int)) = true then
 (lt (w64 (w64 (x94.1.2.2.2.2.2.1 * (3600 : Int)) * x94.1.2.2.2.2.2.2.2.1)) fun v101 =>
 K v101 (ByteArray.extract x94.1.2.2.2.2.1 (Int.toNat x94.1.2.2.2.2.2.2.1) (Int.toNat (↑(ByteArray.size x94.1.2.2.2.2.1) : Int))) true)
 else
 xepactref17_two r100 (fun r102 r103 =>
 (if decide (r102 < (0 : Int)) = true then
 (lt (w64 (w64 ((3600 : Int) * x94.1.2.2.2.2.2.2.2.1) + w64 ((60 : Int) * r99))) fun v104 =>
 K (w64 (x94.1.2.2.2.2.2.1 * v104)) r100 true)
 else
 (lt (w64 (w64 ((3600 : Int) * x94.1.2.2.2.2.2.2.2.1) + w64 ((60 : Int) * r99))) fun v105 =>
 (lt (w64 (x94.1.2.2.2.2.2.1 * w64 (v105 + r102))) fun v106 =>
 K v106 r103 true))))))
 else
 False)
 else
 False)))))
 else
 False)
 else
 (if (x94.1.2.2.2.2.2.2.1 == (0 : Int)) = true then
 K (0 : Int) x94.1.1 false
 else
 (if (0 : Int) ≤ (↑(ByteArray.size x94.1.2.2.2.2.1) : Int) ∧ (↑(ByteArray.size x94.1.2.2.2.2.1) : Int) ≤ (↑(ByteArray.size x94.1.2.2.2.2.1) : Int) then
 (if (0 : Int) ≤ x94.1.2.2.2.2.2.2.1 ∧ x94.1.2.2.2.2.2.2.1 ≤ (↑(ByteArray.size x94.1.2.2.2.2.1) : Int) then
 xepactref17_two (ByteArray.extract x94.1.2.2.2.2.1 (Int.toNat x94.1.2.2.2.2.2.2.1) (Int.toNat (↑(ByteArray.size x94.1.2.2.2.2.1) : Int))) (fun r107 r108 =>
 (if decide (r107 < (0 : Int)) = true then
 (lt (w64 (w64 (x94.1.2.2.2.2.2.1 * (3600 : Int)) * x94.1.2.2.2.2.2.2.2.1)) fun v109 =>
 K v109 (ByteArray.extract x94.1.2.2.2.2.1 (Int.toNat x94.1.2.2.2.2.2.2.1) (Int.toNat (↑(ByteArray.size x94.1.2.2.2.2.1) : Int))) true)
 else
 xepactref17_two r108 (fun r110 r111 =>
 (if decide (r110 < (0 : Int)) = true then
 (lt (w64 (w64 ((3600 : Int) * x94.1.2.2.2.2.2.2.2.1) + w64 ((60 : Int) * r107))) fun v112 =>
 K (w64 (x94.1.2.2.2.2.2.1 * v112)) r108 true)
 else
 (lt (w64 (w64 ((3600 : Int) * x94.1.2.2.2.2.2.2.2.1) + w64 ((60 : Int) * r107))) fun v113 =>
 (lt (w64 (x94.1.2.2.2.2.2.1 * w64 (v113 + r110))) fun v114 =>
 K v114 r111 true))))))
 else
 False)
 else
 False)))
 else
 False)
 else
 (if (x94.1.2.2.2.2.2.2.1 == (0 : Int)) = true then
 K (0 : Int) x94.1.1 false
 else
 (if (0 : Int) ≤ (↑(ByteArray.size x94.1.2.2.2.2.1) : Int) ∧ (↑(ByteArray.size x94.1.2.2.2.2.1) : Int) ≤ (↑(ByteArray.size x94.1.2.2.2.2.1) : Int) then
 (if (0 : Int) ≤ x94.1.2.2.2.2.2.2.1 ∧ x94.1.2.2.2.2.2.2.1 ≤ (↑(ByteArray.size x94.1.2.2.2.2.1) : Int) then
 xepactref17_two (ByteArray.extract x94.1.2.2.2.2.1 (Int.toNat x94.1.2.2.2.2.2.2.1) (Int.toNat (↑(ByteArray.size x94.1.2.2.2.2.1) : Int))) (fun r115 r116 =>
 (if decide (r115 < (0 : Int)) = true then
 (lt (w64 (w64 (x94.1.2.2.2.2.2.1 * (3600 : Int)) * x94.1.2.2.2.2.2.2.2.1)) fun v117 =>
 K v117 (ByteArray.extract x94.1.2.2.2.2.1 (Int.toNat x94.1.2.2.2.2.2.2.1) (Int.toNat (↑(ByteArray.size x94.1.2.2.2.2.1) : Int))) true)
 else
 xepactref17_two r116 (fun r118 r119 =>
 (if decide (r118 < (0 : Int)) = true then
 (lt (w64 (w64 ((3600 : Int) * x94.1.2.2.2.2.2.2.2.1) + w64 ((60 : Int) * r115))) fun v120 =>
 K (w64 (x94.1.2.2.2.2.2.1 * v120)) r116 true)
 else
 (lt (w64 (w64 ((3600 : Int) * x94.1.2.2.2.2.2.2.2.1) + w64 ((60 : Int) * r115))) fun v121 =>
 (lt (w64 (x94.1.2.2.2.2.2.1 * w64 (v121 + r118))) fun v122 =>
 K v122 r119 true))))))
 else
 False)
 else
 False)))
 else
 False)
 else
 (if (x94.1.2.2.2.2.2.2.1 == (0 : Int)) = true then
 K (0 : Int) x94.1.1 false
 else
 (if (0 : Int) ≤ (↑(ByteArray.size x94.1.2.2.2.2.1) : Int) ∧ (↑(ByteArray.size x94.1.2.2.2.2.1) : Int) ≤ (↑(ByteArray.size x94.1.2.2.2.2.1) : Int) then
 (if (0 : Int) ≤ x94.1.2.2.2.2.2.2.1 ∧ x94.1.2.2.2.2.2.2.1 ≤ (↑(ByteArray.size x94.1.2.2.2.2.1) : Int) then
 xepactref17_two (ByteArray.extract x94.1.2.2.2.2.1 (Int.toNat x94.1.2.2.2.2.2.2.1) (Int.toNat (↑(ByteArray.size x94.1.2.2.2.2.1) : Int))) (fun r123 r124 =>
 (if decide (r123 < (0 : Int)) = true then
 (lt (w64 (w64 (x94.1.2.2.2.2.2.1 * (3600 : Int)) * x94.1.2.2.2.2.2.2.2.1)) fun v125 =>
 K v125 (ByteArray.extract x94.1.2.2.2.2.1 (Int.toNat x94.1.2.2.2.2.2.2.1) (Int.toNat (↑(ByteArray.size x94.1.2.2.2.2.1) : Int))) true)
 else
 xepactref17_two r124 (fun r126 r127 =>
 (if decide (r126 < (0 : Int)) = true then
 (lt (w64 (w64 ((3600 : Int) * x94.1.2.2.2.2.2.2.2.1) + w64 ((60 : Int) * r123))) fun v128 =>
 K (w64 (x94.1.2.2.2.2.2.1 * v128)) r124 true)
 else
 (lt (w64 (w64 ((3600 : Int) * x94.1.2.2.2.2.2.2.2.1) + w64 ((60 : Int) * r123))) fun v129 =>
 (lt (w64 (x94.1.2.2.2.2.2.1 * w64 (v129 + r126))) fun v130 =>
 K v130 r127 true))))))
 else
 False)
 else
 False)))
 else
 (if (x94.1.2.2.2.2.2.2.1 == (0 : Int)) = true then
 K (0 : Int) x94.1.1 false
 else
 (if (0 : Int) ≤ (↑(ByteArray.size x94.1.2.2.2.2.1) : Int) ∧ (↑(ByteArray.size x94.1.2.2.2.2.1) : Int) ≤ (↑(ByteArray.size x94.1.2.2.2.2.1) : Int) then
 (if (0 : Int) ≤ x94.1.2.2.2.2.2.2.1 ∧ x94.1.2.2.2.2.2.2.1 ≤ (↑(ByteArray.size x94.1.2.2.2.2.1) : Int) then
 xepactref17_two (ByteArray.extract x94.1.2.2.2.2.1 (Int.toNat x94.1.2.2.2.2.2.2.1) (Int.toNat (↑(ByteArray.size x94.1.2.2.2.2.1) : Int))) (fun r131 r132 =>
 (if decide (r131 < (0 : Int)) = true then
 (lt (w64 (w64 (x94.1.2.2.2.2.2.1 * (3600 : Int)) * x94.1.2.2.2.2.2.2.2.1)) fun v133 =>
 K v133 (ByteArray.extract x94.1.2.2.2.2.1 (Int.toNat x94.1.2.2.2.2.2.2.1) (Int.toNat (↑(ByteArray.size x94.1.2.2.2.2.1) : Int))) true)
 else
 xepactref17_two r132 (fun r134 r135 =>
 (if decide (r134 < (0 : Int)) = true then
 (lt (w64 (w64 ((3600 : Int) * x94.1.2.2.2.2.2.2.2.1) + w64 ((60 : Int) * r131))) fun v136 =>
 K (w64 (x94.1.2.2.2.2.2.1 * v136)) r132 true)
 else
 (lt (w64 (w64 ((3600 : Int) * x94.1.2.2.2.2.2.2.2.1) + w64 ((60 : Int) * r131))) fun v137 =>
 (lt (w64 (x94.1.2.2.2.2.2.1 * w64 (v137 + r134))) fun v138 =>
 K v138 r135 true))))))
 else
 False)
 else
 False)))
def Lepactref17_Time_2p : Lp := ⟨509, [.trim 509], (.cons 0 .str (.cons 2 (.int .i64) (.cons 3 .str (.cons 4 .bool (.cons 5 .str (.cons 6 (.int .i64) (.cons 7 (.int .i64) (.cons 8 (.int .i64) .nil)))))))), .nil, 0⟩
def Lepactref17_Time_1 (xepactref17_two : (ByteArray) → ((Int) → (ByteArray) → Prop) → Prop) (K : (Int) → (ByteArray) → (Bool) → Prop) : ((ByteArray × Int × ByteArray × Bool × ByteArray × Int × Int × Int × Unit) × (Unit) → Prop) → (ByteArray × Int × ByteArray × Bool × ByteArray × Int × Int × Int × Unit) × (Unit) → Prop := fun k47 x48 =>
 (if decide (x48.1.2.2.2.2.2.2.1 < (↑(ByteArray.size x48.1.2.2.2.2.1) : Int)) = true then
 (if decide (x48.1.2.2.2.2.2.2.1 < (3 : Int)) = true then
 (if (0 : Int) ≤ x48.1.2.2.2.2.2.2.1 ∧ x48.1.2.2.2.2.2.2.1 < (↑(ByteArray.size x48.1.2.2.2.2.1) : Int) then
 (if decide (Eng.bAt x48.1.2.2.2.2.1 (Int.toNat x48.1.2.2.2.2.2.2.1) ≥ (48 : Int)) = true then
 (if (0 : Int) ≤ x48.1.2.2.2.2.2.2.1 ∧ x48.1.2.2.2.2.2.2.1 < (↑(ByteArray.size x48.1.2.2.2.2.1) : Int) then
 (if decide (Eng.bAt x48.1.2.2.2.2.1 (Int.toNat x48.1.2.2.2.2.2.2.1) ≤ (57 : Int)) = true then
 (if (0 : Int) ≤ x48.1.2.2.2.2.2.2.1 ∧ x48.1.2.2.2.2.2.2.1 < (↑(ByteArray.size x48.1.2.2.2.2.1) : Int) then
 (lt (w64 (wu8 (Eng.bAt x48.1.2.2.2.2.1 (Int.toNat x48.1.2.2.2.2.2.2.1) - (48 : Int)))) fun v49 =>
 (lt (w64 (w64 ((10 : Int) * x48.1.2.2.2.2.2.2.2.1) + v49)) fun v50 =>
 (if decide (v50 ≤ (167 : Int)) = true then
 (if (0 : Int) ≤ x48.1.2.2.2.2.2.2.1 ∧ x48.1.2.2.2.2.2.2.1 < (↑(ByteArray.size x48.1.2.2.2.2.1) : Int) then
 (lt (w64 (wu8 (Eng.bAt x48.1.2.2.2.2.1 (Int.toNat x48.1.2.2.2.2.2.2.1) - (48 : Int)))) fun v51 =>
 (lt (w64 (w64 ((10 : Int) * x48.1.2.2.2.2.2.2.2.1) + v51)) fun v52 =>
 k47 ((x48.1.1, x48.1.2.1, x48.1.2.2.1, x48.1.2.2.2.1, x48.1.2.2.2.2.1, x48.1.2.2.2.2.2.1, w64 (x48.1.2.2.2.2.2.2.1 + (1 : Int)), v52, ()), ())))
 else
 False)
 else
 (if (x48.1.2.2.2.2.2.2.1 == (0 : Int)) = true then
 K (0 : Int) x48.1.1 false
 else
 (if (0 : Int) ≤ (↑(ByteArray.size x48.1.2.2.2.2.1) : Int) ∧ (↑(ByteArray.size x48.1.2.2.2.2.1) : Int) ≤ (↑(ByteArray.size x48.1.2.2.2.2.1) : Int) then
 (if (0 : Int) ≤ x48.1.2.2.2.2.2.2.1 ∧ x48.1.2.2.2.2.2.2.1 ≤ (↑(ByteArray.size x48.1.2.2.2.2.1) : Int) then
 xepactref17_two (ByteArray.extract x48.1.2.2.2.2.1 (Int.toNat x48.1.2.2.2.2.2.2.1) (Int.toNat (↑(ByteArray.size x48.1.2.2.2.2.1) : Int))) (fun r53 r54 =>
 (if decide (r53 < (0 : Int)) = true then
 (lt (w64 (w64 (x48.1.2.2.2.2.2.1 * (3600 : Int)) * x48.1.2.2.2.2.2.2.2.1)) fun v55 =>
 K v55 (ByteArray.extract x48.1.2.2.2.2.1 (Int.toNat x48.1.2.2.2.2.2.2.1) (Int.toNat (↑(ByteArray.size x48.1.2.2.2.2.1) : Int))) true)
 else
 xepactref17_two r54 (fun r56 r57 =>
 (if decide (r56 < (0 : Int)) = true then
 (lt (w64 (w64 ((3600 : Int) * x48.1.2.2.2.2.2.2.2.1) + w64 ((60 : Int) * r53))) fun v58 =>
 K (w64 (x48.1.2.2.2.2.2.1 * v58)) r54 true)
 else
 (lt (w64 (w64 ((3600 : Int) * x48.1.2.2.2.2.2.2.2.1) + w64 ((60 : Int) * r53))) fun v59 =>
 (lt (w64 (x48.1.2.2.2.2.2.1 * w64 (v59 + r56))) fun v60 =>
 K v60 r57 true))))))
 else
 False)
 else
 False)))))
 else
 False)
 else
 (if (x48.1.2.2.2.2.2.2.1 == (0 : Int)) = true then
 K (0 : Int) x48.1.1 false
 else
 (if (0 : Int) ≤ (↑(ByteArray.size x48.1.2.2.2.2.1) : Int) ∧ (↑(ByteArray.size x48.1.2.2.2.2.1) : Int) ≤ (↑(ByteArray.size x48.1.2.2.2.2.1) : Int) then
 (if (0 : Int) ≤ x48.1.2.2.2.2.2.2.1 ∧ x48.1.2.2.2.2.2.2.1 ≤ (↑(ByteArray.size x48.1.2.2.2.2.1) : Int) then
 xepactref17_two (ByteArray.extract x48.1.2.2.2.2.1 (Int.toNat x48.1.2.2.2.2.2.2.1) (Int.toNat (↑(ByteArray.size x48.1.2.2.2.2.1) : Int))) (fun r61 r62 =>
 (if decide (r61 < (0 : Int)) = true then
 (lt (w64 (w64 (x48.1.2.2.2.2.2.1 * (3600 : Int)) * x48.1.2.2.2.2.2.2.2.1)) fun v63 =>
 K v63 (ByteArray.extract x48.1.2.2.2.2.1 (Int.toNat x48.1.2.2.2.2.2.2.1) (Int.toNat (↑(ByteArray.size x48.1.2.2.2.2.1) : Int))) true)
 else
 xepactref17_two r62 (fun r64 r65 =>
 (if decide (r64 < (0 : Int)) = true then
 (lt (w64 (w64 ((3600 : Int) * x48.1.2.2.2.2.2.2.2.1) + w64 ((60 : Int) * r61))) fun v66 =>
 K (w64 (x48.1.2.2.2.2.2.1 * v66)) r62 true)
 else
 (lt (w64 (w64 ((3600 : Int) * x48.1.2.2.2.2.2.2.2.1) + w64 ((60 : Int) * r61))) fun v67 =>
 (lt (w64 (x48.1.2.2.2.2.2.1 * w64 (v67 + r64))) fun v68 =>
 K v68 r65 true))))))
 else
 False)
 else
 False)))
 else
 False)
 else
 (if (x48.1.2.2.2.2.2.2.1 == (0 : Int)) = true then
 K (0 : Int) x48.1.1 false
 else
 (if (0 : Int) ≤ (↑(ByteArray.size x48.1.2.2.2.2.1) : Int) ∧ (↑(ByteArray.size x48.1.2.2.2.2.1) : Int) ≤ (↑(ByteArray.size x48.1.2.2.2.2.1) : Int) then
 (if (0 : Int) ≤ x48.1.2.2.2.2.2.2.1 ∧ x48.1.2.2.2.2.2.2.1 ≤ (↑(ByteArray.size x48.1.2.2.2.2.1) : Int) then
 xepactref17_two (ByteArray.extract x48.1.2.2.2.2.1 (Int.toNat x48.1.2.2.2.2.2.2.1) (Int.toNat (↑(ByteArray.size x48.1.2.2.2.2.1) : Int))) (fun r69 r70 =>
 (if decide (r69 < (0 : Int)) = true then
 (lt (w64 (w64 (x48.1.2.2.2.2.2.1 * (3600 : Int)) * x48.1.2.2.2.2.2.2.2.1)) fun v71 =>
 K v71 (ByteArray.extract x48.1.2.2.2.2.1 (Int.toNat x48.1.2.2.2.2.2.2.1) (Int.toNat (↑(ByteArray.size x48.1.2.2.2.2.1) : Int))) true)
 else
 xepactref17_two r70 (fun r72 r73 =>
 (if decide (r72 < (0 : Int)) = true then
 (lt (w64 (w64 ((3600 : Int) * x48.1.2.2.2.2.2.2.2.1) + w64 ((60 : Int) * r69))) fun v74 =>
 K (w64 (x48.1.2.2.2.2.2.1 * v74)) r70 true)
 else
 (lt (w64 (w64 ((3600 : Int) * x48.1.2.2.2.2.2.2.2.1) + w64 ((60 : Int) * r69))) fun v75 =>
 (lt (w64 (x48.1.2.2.2.2.2.1 * w64 (v75 + r72))) fun v76 =>
 K v76 r73 true))))))
 else
 False)
 else
 False)))
 else
 False)
 else
 (if (x48.1.2.2.2.2.2.2.1 == (0 : Int)) = true then
 K (0 : Int) x48.1.1 false
 else
 (if (0 : Int) ≤ (↑(ByteArray.size x48.1.2.2.2.2.1) : Int) ∧ (↑(ByteArray.size x48.1.2.2.2.2.1) : Int) ≤ (↑(ByteArray.size x48.1.2.2.2.2.1) : Int) then
 (if (0 : Int) ≤ x48.1.2.2.2.2.2.2.1 ∧ x48.1.2.2.2.2.2.2.1 ≤ (↑(ByteArray.size x48.1.2.2.2.2.1) : Int) then
 xepactref17_two (ByteArray.extract x48.1.2.2.2.2.1 (Int.toNat x48.1.2.2.2.2.2.2.1) (Int.toNat (↑(ByteArray.size x48.1.2.2.2.2.1) : Int))) (fun r77 r78 =>
 (if decide (r77 < (0 : Int)) = true then
 (lt (w64 (w64 (x48.1.2.2.2.2.2.1 * (3600 : Int)) * x48.1.2.2.2.2.2.2.2.1)) fun v79 =>
 K v79 (ByteArray.extract x48.1.2.2.2.2.1 (Int.toNat x48.1.2.2.2.2.2.2.1) (Int.toNat (↑(ByteArray.size x48.1.2.2.2.2.1) : Int))) true)
 else
 xepactref17_two r78 (fun r80 r81 =>
 (if decide (r80 < (0 : Int)) = true then
 (lt (w64 (w64 ((3600 : Int) * x48.1.2.2.2.2.2.2.2.1) + w64 ((60 : Int) * r77))) fun v82 =>
 K (w64 (x48.1.2.2.2.2.2.1 * v82)) r78 true)
 else
 (lt (w64 (w64 ((3600 : Int) * x48.1.2.2.2.2.2.2.2.1) + w64 ((60 : Int) * r77))) fun v83 =>
 (lt (w64 (x48.1.2.2.2.2.2.1 * w64 (v83 + r80))) fun v84 =>
 K v84 r81 true))))))
 else
 False)
 else
 False)))
 else
 (if (x48.1.2.2.2.2.2.2.1 == (0 : Int)) = true then
 K (0 : Int) x48.1.1 false
 else
 (if (0 : Int) ≤ (↑(ByteArray.size x48.1.2.2.2.2.1) : Int) ∧ (↑(ByteArray.size x48.1.2.2.2.2.1) : Int) ≤ (↑(ByteArray.size x48.1.2.2.2.2.1) : Int) then
 (if (0 : Int) ≤ x48.1.2.2.2.2.2.2.1 ∧ x48.1.2.2.2.2.2.2.1 ≤ (↑(ByteArray.size x48.1.2.2.2.2.1) : Int) then
 xepactref17_two (ByteArray.extract x48.1.2.2.2.2.1 (Int.toNat x48.1.2.2.2.2.2.2.1) (Int.toNat (↑(ByteArray.size x48.1.2.2.2.2.1) : Int))) (fun r85 r86 =>
 (if decide (r85 < (0 : Int)) = true then
 (lt (w64 (w64 (x48.1.2.2.2.2.2.1 * (3600 : Int)) * x48.1.2.2.2.2.2.2.2.1)) fun v87 =>
 K v87 (ByteArray.extract x48.1.2.2.2.2.1 (Int.toNat x48.1.2.2.2.2.2.2.1) (Int.toNat (↑(ByteArray.size x48.1.2.2.2.2.1) : Int))) true)
 else
 xepactref17_two r86 (fun r88 r89 =>
 (if decide (r88 < (0 : Int)) = true then
 (lt (w64 (w64 ((3600 : Int) * x48.1.2.2.2.2.2.2.2.1) + w64 ((60 : Int) * r85))) fun v90 =>
 K (w64 (x48.1.2.2.2.2.2.1 * v90)) r86 true)
 else
 (lt (w64 (w64 ((3600 : Int) * x48.1.2.2.2.2.2.2.2.1) + w64 ((60 : Int) * r85))) fun v91 =>
 (lt (w64 (x48.1.2.2.2.2.2.1 * w64 (v91 + r88))) fun v92 =>
 K v92 r89 true))))))
 else
 False)
 else
 False)))
def Lepactref17_Time_1p : Lp := ⟨509, [.trim 509], (.cons 0 .str (.cons 2 (.int .i64) (.cons 3 .str (.cons 4 .bool (.cons 5 .str (.cons 6 (.int .i64) (.cons 7 (.int .i64) (.cons 8 (.int .i64) .nil)))))))), .nil, 0⟩
def Lepactref17_Time_0 (xepactref17_two : (ByteArray) → ((Int) → (ByteArray) → Prop) → Prop) (K : (Int) → (ByteArray) → (Bool) → Prop) : ((ByteArray × Int × ByteArray × Bool × ByteArray × Int × Int × Int × Unit) × (Unit) → Prop) → (ByteArray × Int × ByteArray × Bool × ByteArray × Int × Int × Int × Unit) × (Unit) → Prop := fun k1 x2 =>
 (if decide (x2.1.2.2.2.2.2.2.1 < (↑(ByteArray.size x2.1.2.2.2.2.1) : Int)) = true then
 (if decide (x2.1.2.2.2.2.2.2.1 < (3 : Int)) = true then
 (if (0 : Int) ≤ x2.1.2.2.2.2.2.2.1 ∧ x2.1.2.2.2.2.2.2.1 < (↑(ByteArray.size x2.1.2.2.2.2.1) : Int) then
 (if decide (Eng.bAt x2.1.2.2.2.2.1 (Int.toNat x2.1.2.2.2.2.2.2.1) ≥ (48 : Int)) = true then
 (if (0 : Int) ≤ x2.1.2.2.2.2.2.2.1 ∧ x2.1.2.2.2.2.2.2.1 < (↑(ByteArray.size x2.1.2.2.2.2.1) : Int) then
 (if decide (Eng.bAt x2.1.2.2.2.2.1 (Int.toNat x2.1.2.2.2.2.2.2.1) ≤ (57 : Int)) = true then
 (if (0 : Int) ≤ x2.1.2.2.2.2.2.2.1 ∧ x2.1.2.2.2.2.2.2.1 < (↑(ByteArray.size x2.1.2.2.2.2.1) : Int) then
 (lt (w64 (wu8 (Eng.bAt x2.1.2.2.2.2.1 (Int.toNat x2.1.2.2.2.2.2.2.1) - (48 : Int)))) fun v3 =>
 (lt (w64 (w64 ((10 : Int) * x2.1.2.2.2.2.2.2.2.1) + v3)) fun v4 =>
 (if decide (v4 ≤ (167 : Int)) = true then
 (if (0 : Int) ≤ x2.1.2.2.2.2.2.2.1 ∧ x2.1.2.2.2.2.2.2.1 < (↑(ByteArray.size x2.1.2.2.2.2.1) : Int) then
 (lt (w64 (wu8 (Eng.bAt x2.1.2.2.2.2.1 (Int.toNat x2.1.2.2.2.2.2.2.1) - (48 : Int)))) fun v5 =>
 (lt (w64 (w64 ((10 : Int) * x2.1.2.2.2.2.2.2.2.1) + v5)) fun v6 =>
 k1 ((x2.1.1, x2.1.2.1, x2.1.2.2.1, x2.1.2.2.2.1, x2.1.2.2.2.2.1, x2.1.2.2.2.2.2.1, w64 (x2.1.2.2.2.2.2.2.1 + (1 : Int)), v6, ()), ())))
 else
 False)
 else
 (if (x2.1.2.2.2.2.2.2.1 == (0 : Int)) = true then
 K (0 : Int) x2.1.1 false
 else
 (if (0 : Int) ≤ (↑(ByteArray.size x2.1.2.2.2.2.1) : Int) ∧ (↑(ByteArray.size x2.1.2.2.2.2.1) : Int) ≤ (↑(ByteArray.size x2.1.2.2.2.2.1) : Int) then
 (if (0 : Int) ≤ x2.1.2.2.2.2.2.2.1 ∧ x2.1.2.2.2.2.2.2.1 ≤ (↑(ByteArray.size x2.1.2.2.2.2.1) : Int) then
 xepactref17_two (ByteArray.extract x2.1.2.2.2.2.1 (Int.toNat x2.1.2.2.2.2.2.2.1) (Int.toNat (↑(ByteArray.size x2.1.2.2.2.2.1) : Int))) (fun r7 r8 =>
 (if decide (r7 < (0 : Int)) = true then
 (lt (w64 (w64 (x2.1.2.2.2.2.2.1 * (3600 : Int)) * x2.1.2.2.2.2.2.2.2.1)) fun v9 =>
 K v9 (ByteArray.extract x2.1.2.2.2.2.1 (Int.toNat x2.1.2.2.2.2.2.2.1) (Int.toNat (↑(ByteArray.size x2.1.2.2.2.2.1) : Int))) true)
 else
 xepactref17_two r8 (fun r10 r11 =>
 (if decide (r10 < (0 : Int)) = true then
 (lt (w64 (w64 ((3600 : Int) * x2.1.2.2.2.2.2.2.2.1) + w64 ((60 : Int) * r7))) fun v12 =>
 K (w64 (x2.1.2.2.2.2.2.1 * v12)) r8 true)
 else
 (lt (w64 (w64 ((3600 : Int) * x2.1.2.2.2.2.2.2.2.1) + w64 ((60 : Int) * r7))) fun v13 =>
 (lt (w64 (x2.1.2.2.2.2.2.1 * w64 (v13 + r10))) fun v14 =>
 K v14 r11 true))))))
 else
 False)
 else
 False)))))
 else
 False)
 else
 (if (x2.1.2.2.2.2.2.2.1 == (0 : Int)) = true then
 K (0 : Int) x2.1.1 false
 else
 (if (0 : Int) ≤ (↑(ByteArray.size x2.1.2.2.2.2.1) : Int) ∧ (↑(ByteArray.size x2.1.2.2.2.2.1) : Int) ≤ (↑(ByteArray.size x2.1.2.2.2.2.1) : Int) then
 (if (0 : Int) ≤ x2.1.2.2.2.2.2.2.1 ∧ x2.1.2.2.2.2.2.2.1 ≤ (↑(ByteArray.size x2.1.2.2.2.2.1) : Int) then
 xepactref17_two (ByteArray.extract x2.1.2.2.2.2.1 (Int.toNat x2.1.2.2.2.2.2.2.1) (Int.toNat (↑(ByteArray.size x2.1.2.2.2.2.1) : Int))) (fun r15 r16 =>
 (if decide (r15 < (0 : Int)) = true then
 (lt (w64 (w64 (x2.1.2.2.2.2.2.1 * (3600 : Int)) * x2.1.2.2.2.2.2.2.2.1)) fun v17 =>
 K v17 (ByteArray.extract x2.1.2.2.2.2.1 (Int.toNat x2.1.2.2.2.2.2.2.1) (Int.toNat (↑(ByteArray.size x2.1.2.2.2.2.1) : Int))) true)
 else
 xepactref17_two r16 (fun r18 r19 =>
 (if decide (r18 < (0 : Int)) = true then
 (lt (w64 (w64 ((3600 : Int) * x2.1.2.2.2.2.2.2.2.1) + w64 ((60 : Int) * r15))) fun v20 =>
 K (w64 (x2.1.2.2.2.2.2.1 * v20)) r16 true)
 else
 (lt (w64 (w64 ((3600 : Int) * x2.1.2.2.2.2.2.2.2.1) + w64 ((60 : Int) * r15))) fun v21 =>
 (lt (w64 (x2.1.2.2.2.2.2.1 * w64 (v21 + r18))) fun v22 =>
 K v22 r19 true))))))
 else
 False)
 else
 False)))
 else
 False)
 else
 (if (x2.1.2.2.2.2.2.2.1 == (0 : Int)) = true then
 K (0 : Int) x2.1.1 false
 else
 (if (0 : Int) ≤ (↑(ByteArray.size x2.1.2.2.2.2.1) : Int) ∧ (↑(ByteArray.size x2.1.2.2.2.2.1) : Int) ≤ (↑(ByteArray.size x2.1.2.2.2.2.1) : Int) then
 (if (0 : Int) ≤ x2.1.2.2.2.2.2.2.1 ∧ x2.1.2.2.2.2.2.2.1 ≤ (↑(ByteArray.size x2.1.2.2.2.2.1) : Int) then
 xepactref17_two (ByteArray.extract x2.1.2.2.2.2.1 (Int.toNat x2.1.2.2.2.2.2.2.1) (Int.toNat (↑(ByteArray.size x2.1.2.2.2.2.1) : Int))) (fun r23 r24 =>
 (if decide (r23 < (0 : Int)) = true then
 (lt (w64 (w64 (x2.1.2.2.2.2.2.1 * (3600 : Int)) * x2.1.2.2.2.2.2.2.2.1)) fun v25 =>
 K v25 (ByteArray.extract x2.1.2.2.2.2.1 (Int.toNat x2.1.2.2.2.2.2.2.1) (Int.toNat (↑(ByteArray.size x2.1.2.2.2.2.1) : Int))) true)
 else
 xepactref17_two r24 (fun r26 r27 =>
 (if decide (r26 < (0 : Int)) = true then
 (lt (w64 (w64 ((3600 : Int) * x2.1.2.2.2.2.2.2.2.1) + w64 ((60 : Int) * r23))) fun v28 =>
 K (w64 (x2.1.2.2.2.2.2.1 * v28)) r24 true)
 else
 (lt (w64 (w64 ((3600 : Int) * x2.1.2.2.2.2.2.2.2.1) + w64 ((60 : Int) * r23))) fun v29 =>
 (lt (w64 (x2.1.2.2.2.2.2.1 * w64 (v29 + r26))) fun v30 =>
 K v30 r27 true))))))
 else
 False)
 else
 False)))
 else
 False)
 else
 (if (x2.1.2.2.2.2.2.2.1 == (0 : Int)) = true then
 K (0 : Int) x2.1.1 false
 else
 (if (0 : Int) ≤ (↑(ByteArray.size x2.1.2.2.2.2.1) : Int) ∧ (↑(ByteArray.size x2.1.2.2.2.2.1) : Int) ≤ (↑(ByteArray.size x2.1.2.2.2.2.1) : Int) then
 (if (0 : Int) ≤ x2.1.2.2.2.2.2.2.1 ∧ x2.1.2.2.2.2.2.2.1 ≤ (↑(ByteArray.size x2.1.2.2.2.2.1) : Int) then
 xepactref17_two (ByteArray.extract x2.1.2.2.2.2.1 (Int.toNat x2.1.2.2.2.2.2.2.1) (Int.toNat (↑(ByteArray.size x2.1.2.2.2.2.1) : Int))) (fun r31 r32 =>
 (if decide (r31 < (0 : Int)) = true then
 (lt (w64 (w64 (x2.1.2.2.2.2.2.1 * (3600 : Int)) * x2.1.2.2.2.2.2.2.2.1)) fun v33 =>
 K v33 (ByteArray.extract x2.1.2.2.2.2.1 (Int.toNat x2.1.2.2.2.2.2.2.1) (Int.toNat (↑(ByteArray.size x2.1.2.2.2.2.1) : Int))) true)
 else
 xepactref17_two r32 (fun r34 r35 =>
 (if decide (r34 < (0 : Int)) = true then
 (lt (w64 (w64 ((3600 : Int) * x2.1.2.2.2.2.2.2.2.1) + w64 ((60 : Int) * r31))) fun v36 =>
 K (w64 (x2.1.2.2.2.2.2.1 * v36)) r32 true)
 else
 (lt (w64 (w64 ((3600 : Int) * x2.1.2.2.2.2.2.2.2.1) + w64 ((60 : Int) * r31))) fun v37 =>
 (lt (w64 (x2.1.2.2.2.2.2.1 * w64 (v37 + r34))) fun v38 =>
 K v38 r35 true))))))
 else
 False)
 else
 False)))
 else
 (if (x2.1.2.2.2.2.2.2.1 == (0 : Int)) = true then
 K (0 : Int) x2.1.1 false
 else
 (if (0 : Int) ≤ (↑(ByteArray.size x2.1.2.2.2.2.1) : Int) ∧ (↑(ByteArray.size x2.1.2.2.2.2.1) : Int) ≤ (↑(ByteArray.size x2.1.2.2.2.2.1) : Int) then
 (if (0 : Int) ≤ x2.1.2.2.2.2.2.2.1 ∧ x2.1.2.2.2.2.2.2.1 ≤ (↑(ByteArray.size x2.1.2.2.2.2.1) : Int) then
 xepactref17_two (ByteArray.extract x2.1.2.2.2.2.1 (Int.toNat x2.1.2.2.2.2.2.2.1) (Int.toNat (↑(ByteArray.size x2.1.2.2.2.2.1) : Int))) (fun r39 r40 =>
 (if decide (r39 < (0 : Int)) = true then
 (lt (w64 (w64 (x2.1.2.2.2.2.2.1 * (3600 : Int)) * x2.1.2.2.2.2.2.2.2.1)) fun v41 =>
 K v41 (ByteArray.extract x2.1.2.2.2.2.1 (Int.toNat x2.1.2.2.2.2.2.2.1) (Int.toNat (↑(ByteArray.size x2.1.2.2.2.2.1) : Int))) true)
 else
 xepactref17_two r40 (fun r42 r43 =>
 (if decide (r42 < (0 : Int)) = true then
 (lt (w64 (w64 ((3600 : Int) * x2.1.2.2.2.2.2.2.2.1) + w64 ((60 : Int) * r39))) fun v44 =>
 K (w64 (x2.1.2.2.2.2.2.1 * v44)) r40 true)
 else
 (lt (w64 (w64 ((3600 : Int) * x2.1.2.2.2.2.2.2.2.1) + w64 ((60 : Int) * r39))) fun v45 =>
 (lt (w64 (x2.1.2.2.2.2.2.1 * w64 (v45 + r42))) fun v46 =>
 K v46 r43 true))))))
 else
 False)
 else
 False)))
def Lepactref17_Time_0p : Lp := ⟨509, [.trim 509], (.cons 0 .str (.cons 2 (.int .i64) (.cons 3 .str (.cons 4 .bool (.cons 5 .str (.cons 6 (.int .i64) (.cons 7 (.int .i64) (.cons 8 (.int .i64) .nil)))))))), .nil, 0⟩
def Yepactref17_Time (xepactref17_two : (ByteArray) → ((Int) → (ByteArray) → Prop) → Prop) (a0 : ByteArray) (K : (Int) → (ByteArray) → (Bool) → Prop) : Prop :=
 (if decide ((↑(ByteArray.size a0) : Int) > (0 : Int)) = true then
 (if (0 : Int) ≤ (0 : Int) ∧ (0 : Int) < (↑(ByteArray.size a0) : Int) then
 (if (Eng.bAt a0 (0 : Nat) == (45 : Int)) = true then
 (if (0 : Int) ≤ (0 : Int) ∧ (0 : Int) < (↑(ByteArray.size a0) : Int) then
 (if (Eng.bAt a0 (0 : Nat) == (45 : Int)) = true then
 (if (0 : Int) ≤ (↑(ByteArray.size a0) : Int) ∧ (↑(ByteArray.size a0) : Int) ≤ (↑(ByteArray.size a0) : Int) then
 (if (0 : Int) ≤ (1 : Int) ∧ (1 : Int) ≤ (↑(ByteArray.size a0) : Int) then
 lp (Lepactref17_Time_0 xepactref17_two K) ((a0, (0 : Int), ByteArray.mk #[], false, ByteArray.extract a0 (1 : Nat) (Int.toNat (↑(ByteArray.size a0) : Int)), (-1 : Int), (0 : Int), (0 : Int), ()), ())
 else
 False)
 else
 False)
 else
 (if (0 : Int) ≤ (↑(ByteArray.size a0) : Int) ∧ (↑(ByteArray.size a0) : Int) ≤ (↑(ByteArray.size a0) : Int) then
 (if (0 : Int) ≤ (1 : Int) ∧ (1 : Int) ≤ (↑(ByteArray.size a0) : Int) then
 lp (Lepactref17_Time_1 xepactref17_two K) ((a0, (0 : Int), ByteArray.mk #[], false, ByteArray.extract a0 (1 : Nat) (Int.toNat (↑(ByteArray.size a0) : Int)), (1 : Int), (0 : Int), (0 : Int), ()), ())
 else
 False)
 else
 False))
 else
 False)
 else
 (if (0 : Int) ≤ (0 : Int) ∧ (0 : Int) < (↑(ByteArray.size a0) : Int) then
 (if (Eng.bAt a0 (0 : Nat) == (43 : Int)) = true then
 (if (0 : Int) ≤ (0 : Int) ∧ (0 : Int) < (↑(ByteArray.size a0) : Int) then
 (if (Eng.bAt a0 (0 : Nat) == (45 : Int)) = true then
 (if (0 : Int) ≤ (↑(ByteArray.size a0) : Int) ∧ (↑(ByteArray.size a0) : Int) ≤ (↑(ByteArray.size a0) : Int) then
 (if (0 : Int) ≤ (1 : Int) ∧ (1 : Int) ≤ (↑(ByteArray.size a0) : Int) then
 lp (Lepactref17_Time_2 xepactref17_two K) ((a0, (0 : Int), ByteArray.mk #[], false, ByteArray.extract a0 (1 : Nat) (Int.toNat (↑(ByteArray.size a0) : Int)), (-1 : Int), (0 : Int), (0 : Int), ()), ())
 else
 False)
 else
 False)
 else
 (if (0 : Int) ≤ (↑(ByteArray.size a0) : Int) ∧ (↑(ByteArray.size a0) : Int) ≤ (↑(ByteArray.size a0) : Int) then
 (if (0 : Int) ≤ (1 : Int) ∧ (1 : Int) ≤ (↑(ByteArray.size a0) : Int) then
 lp (Lepactref17_Time_3 xepactref17_two K) ((a0, (0 : Int), ByteArray.mk #[], false, ByteArray.extract a0 (1 : Nat) (Int.toNat (↑(ByteArray.size a0) : Int)), (1 : Int), (0 : Int), (0 : Int), ()), ())
 else
 False)
 else
 False))
 else
 False)
 else
 lp (Lepactref17_Time_4 xepactref17_two K) ((a0, (0 : Int), ByteArray.mk #[], false, a0, (1 : Int), (0 : Int), (0 : Int), ()), ()))
 else
 False))
 else
 False)
 else
 lp (Lepactref17_Time_5 xepactref17_two K) ((a0, (0 : Int), ByteArray.mk #[], false, a0, (1 : Int), (0 : Int), (0 : Int), ()), ()))
def Xepactref17_Time (a0 : ByteArray) (K : (Int) → (ByteArray) → (Bool) → Prop) : Prop := Yepactref17_Time Xepactref17_two a0 K
def Jepactref17_Time (X : (ByteArray) → ((Int) → (ByteArray) → (Bool) → Prop) → Prop) : Inst := ⟨26, (.cons .str .nil), .nil, (.cons (.int .i64) (.cons .str (.cons .bool .nil))), .nil, fun x y K => X x.1 (fun u0 u1 u2 => K (u0, (u1, (u2, ()))) ())⟩
def Iepactref17_Time : Inst := Jepactref17_Time Xepactref17_Time
theorem Eepactref17_Time (xepactref17_two : (ByteArray) → ((Int) → (ByteArray) → Prop) → Prop) (x : PL.T (.cons .str .nil)) (y : PH.T .nil) (K : PL.T (.cons (.int .i64) (.cons .str (.cons .bool .nil))) → PH.T .nil → Prop) : Yepactref17_Time xepactref17_two x.1 (fun u0 u1 u2 => K (u0, (u1, (u2, ()))) ()) = bodyC (envP Tryz.prog 116 gives ⟨tabC [Jepactref17_two xepactref17_two], tabL [Lepactref17_Time_0p, Lepactref17_Time_1p, Lepactref17_Time_2p, Lepactref17_Time_3p, Lepactref17_Time_4p, Lepactref17_Time_5p]⟩) Tryz.f26 (Tryz.f26.body.getD .skip) (PL.enc (.cons .str .nil) x) (PH.enc .nil y) (resK (.cons (.int .i64) (.cons .str (.cons .bool .nil))) .nil K) := by kernel_rfl
theorem Iepactref17_Time_ok : InstOk Tryz.prog G.1 Iepactref17_Time := inst_ok (gives := gives) (is := [Iepactref17_two]) [Lepactref17_Time_0p, Lepactref17_Time_1p, Lepactref17_Time_2p, Lepactref17_Time_3p, Lepactref17_Time_4p, Lepactref17_Time_5p] (okCons Iepactref17_two_ok okNil) 116 follows Tryz.func26 (by kernel_rfl) (fun x => by kernel_rfl) (fun x y K => Eepactref17_Time Xepactref17_two x y K)

/- epact/epactref18.checked -/
def Yepactref18_checked (xepactref18_Right : (Int × Bool × ByteArray × Int × Bool × ByteArray × Bool × Int × Int × Int × Int × Int × Int × Int × Int × Int × Int × Unit) → ((Bool) → Prop) → Prop) (a0 : Int × Bool × ByteArray × Int × Bool × ByteArray × Bool × Int × Int × Int × Int × Int × Int × Int × Int × Int × Int × Unit) (K : (Int × Bool × ByteArray × Int × Bool × ByteArray × Bool × Int × Int × Int × Int × Int × Int × Int × Int × Int × Int × Unit) → (Bool) → Prop) : Prop :=
 xepactref18_Right a0 (fun r1 =>
 (if (!r1) = true then
 K ((0 : Int), false, ByteArray.mk #[], (0 : Int), false, ByteArray.mk #[], false, (0 : Int), (0 : Int), (0 : Int), (0 : Int), (0 : Int), (0 : Int), (0 : Int), (0 : Int), (0 : Int), (0 : Int), ()) false
 else
 K a0 true))
def Xepactref18_checked (a0 : Int × Bool × ByteArray × Int × Bool × ByteArray × Bool × Int × Int × Int × Int × Int × Int × Int × Int × Int × Int × Unit) (K : (Int × Bool × ByteArray × Int × Bool × ByteArray × Bool × Int × Int × Int × Int × Int × Int × Int × Int × Int × Int × Unit) → (Bool) → Prop) : Prop := Yepactref18_checked Xepactref18_Right a0 K
def Jepactref18_checked (X : (Int × Bool × ByteArray × Int × Bool × ByteArray × Bool × Int × Int × Int × Int × Int × Int × Int × Int × Int × Int × Unit) → ((Int × Bool × ByteArray × Int × Bool × ByteArray × Bool × Int × Int × Int × Int × Int × Int × Int × Int × Int × Int × Unit) → (Bool) → Prop) → Prop) : Inst := ⟨27, (.cons (.agg (.cons (.int .i64) (.cons .bool (.cons .str (.cons (.int .i64) (.cons .bool (.cons .str (.cons .bool (.cons (.int .i64) (.cons (.int .i64) (.cons (.int .i64) (.cons (.int .i64) (.cons (.int .i64) (.cons (.int .i64) (.cons (.int .i64) (.cons (.int .i64) (.cons (.int .i64) (.cons (.int .i64) .nil)))))))))))))))))) .nil), .nil, (.cons (.agg (.cons (.int .i64) (.cons .bool (.cons .str (.cons (.int .i64) (.cons .bool (.cons .str (.cons .bool (.cons (.int .i64) (.cons (.int .i64) (.cons (.int .i64) (.cons (.int .i64) (.cons (.int .i64) (.cons (.int .i64) (.cons (.int .i64) (.cons (.int .i64) (.cons (.int .i64) (.cons (.int .i64) .nil)))))))))))))))))) (.cons .bool .nil)), .nil, fun x y K => X x.1 (fun u0 u1 => K (u0, (u1, ())) ())⟩
def Iepactref18_checked : Inst := Jepactref18_checked Xepactref18_checked
theorem Eepactref18_checked (xepactref18_Right : (Int × Bool × ByteArray × Int × Bool × ByteArray × Bool × Int × Int × Int × Int × Int × Int × Int × Int × Int × Int × Unit) → ((Bool) → Prop) → Prop) (x : PL.T (.cons (.agg (.cons (.int .i64) (.cons .bool (.cons .str (.cons (.int .i64) (.cons .bool (.cons .str (.cons .bool (.cons (.int .i64) (.cons (.int .i64) (.cons (.int .i64) (.cons (.int .i64) (.cons (.int .i64) (.cons (.int .i64) (.cons (.int .i64) (.cons (.int .i64) (.cons (.int .i64) (.cons (.int .i64) .nil)))))))))))))))))) .nil)) (y : PH.T .nil) (K : PL.T (.cons (.agg (.cons (.int .i64) (.cons .bool (.cons .str (.cons (.int .i64) (.cons .bool (.cons .str (.cons .bool (.cons (.int .i64) (.cons (.int .i64) (.cons (.int .i64) (.cons (.int .i64) (.cons (.int .i64) (.cons (.int .i64) (.cons (.int .i64) (.cons (.int .i64) (.cons (.int .i64) (.cons (.int .i64) .nil)))))))))))))))))) (.cons .bool .nil)) → PH.T .nil → Prop) : Yepactref18_checked xepactref18_Right x.1 (fun u0 u1 => K (u0, (u1, ())) ()) = bodyC (envP Tryz.prog 9 gives ⟨tabC [Jepactref18_Right xepactref18_Right], tabL []⟩) Tryz.f27 (Tryz.f27.body.getD .skip) (PL.enc (.cons (.agg (.cons (.int .i64) (.cons .bool (.cons .str (.cons (.int .i64) (.cons .bool (.cons .str (.cons .bool (.cons (.int .i64) (.cons (.int .i64) (.cons (.int .i64) (.cons (.int .i64) (.cons (.int .i64) (.cons (.int .i64) (.cons (.int .i64) (.cons (.int .i64) (.cons (.int .i64) (.cons (.int .i64) .nil)))))))))))))))))) .nil) x) (PH.enc .nil y) (resK (.cons (.agg (.cons (.int .i64) (.cons .bool (.cons .str (.cons (.int .i64) (.cons .bool (.cons .str (.cons .bool (.cons (.int .i64) (.cons (.int .i64) (.cons (.int .i64) (.cons (.int .i64) (.cons (.int .i64) (.cons (.int .i64) (.cons (.int .i64) (.cons (.int .i64) (.cons (.int .i64) (.cons (.int .i64) .nil)))))))))))))))))) (.cons .bool .nil)) .nil K) := by kernel_rfl
theorem Iepactref18_checked_ok : InstOk Tryz.prog G.1 Iepactref18_checked := inst_ok (gives := gives) (is := [Iepactref18_Right]) [] (okCons Iepactref18_Right_ok okNil) 9 follows Tryz.func27 (by kernel_rfl) (fun x => by kernel_rfl) (fun x y K => Eepactref18_checked Xepactref18_Right x y K)

/- epact/epactref17.number -/
def Lepactref17_number_0 (K : (Int) → (ByteArray) → Prop) : ((ByteArray × Int × Int × Int × Int × ByteArray × Int × Int × Unit) × (Unit) → Prop) → (ByteArray × Int × Int × Int × Int × ByteArray × Int × Int × Unit) × (Unit) → Prop := fun k4 x5 =>
 (if decide (x5.1.2.2.2.2.2.2.2.1 < (↑(ByteArray.size x5.1.1) : Int)) = true then
 (if (0 : Int) ≤ x5.1.2.2.2.2.2.2.2.1 ∧ x5.1.2.2.2.2.2.2.2.1 < (↑(ByteArray.size x5.1.1) : Int) then
 (if decide (Eng.bAt x5.1.1 (Int.toNat x5.1.2.2.2.2.2.2.2.1) ≥ (48 : Int)) = true then
 (if (0 : Int) ≤ x5.1.2.2.2.2.2.2.2.1 ∧ x5.1.2.2.2.2.2.2.2.1 < (↑(ByteArray.size x5.1.1) : Int) then
 (if decide (Eng.bAt x5.1.1 (Int.toNat x5.1.2.2.2.2.2.2.2.1) ≤ (57 : Int)) = true then
 (if decide (x5.1.2.2.2.2.2.2.2.1 ≤ x5.1.2.2.1) = true then
 (if (0 : Int) ≤ x5.1.2.2.2.2.2.2.2.1 ∧ x5.1.2.2.2.2.2.2.2.1 < (↑(ByteArray.size x5.1.1) : Int) then
 (lt (w64 (wu8 (Eng.bAt x5.1.1 (Int.toNat x5.1.2.2.2.2.2.2.2.1) - (48 : Int)))) fun v6 =>
 (lt (w64 (w64 ((10 : Int) * x5.1.2.2.2.2.2.2.1) + v6)) fun v7 =>
 k4 ((x5.1.1, x5.1.2.1, x5.1.2.2.1, x5.1.2.2.2.1, x5.1.2.2.2.2.1, x5.1.2.2.2.2.2.1, v7, w64 (x5.1.2.2.2.2.2.2.2.1 + (1 : Int)), ()), ())))
 else
 False)
 else
 (if decide (x5.1.2.2.2.2.2.2.2.1 < x5.1.2.1) = true then
 K (-1 : Int) x5.1.1
 else
 (if decide (x5.1.2.2.2.2.2.2.2.1 > x5.1.2.2.1) = true then
 K (-1 : Int) x5.1.1
 else
 (if decide (x5.1.2.2.2.2.2.2.1 > x5.1.2.2.2.1) = true then
 K (-1 : Int) x5.1.1
 else
 (if (0 : Int) ≤ (↑(ByteArray.size x5.1.1) : Int) ∧ (↑(ByteArray.size x5.1.1) : Int) ≤ (↑(ByteArray.size x5.1.1) : Int) then
 (if (0 : Int) ≤ x5.1.2.2.2.2.2.2.2.1 ∧ x5.1.2.2.2.2.2.2.2.1 ≤ (↑(ByteArray.size x5.1.1) : Int) then
 K x5.1.2.2.2.2.2.2.1 (ByteArray.extract x5.1.1 (Int.toNat x5.1.2.2.2.2.2.2.2.1) (Int.toNat (↑(ByteArray.size x5.1.1) : Int)))
 else
 False)
 else
 False)))))
 else
 (if decide (x5.1.2.2.2.2.2.2.2.1 < x5.1.2.1) = true then
 K (-1 : Int) x5.1.1
 else
 (if decide (x5.1.2.2.2.2.2.2.2.1 > x5.1.2.2.1) = true then
 K (-1 : Int) x5.1.1
 else
 (if decide (x5.1.2.2.2.2.2.2.1 > x5.1.2.2.2.1) = true then
 K (-1 : Int) x5.1.1
 else
 (if (0 : Int) ≤ (↑(ByteArray.size x5.1.1) : Int) ∧ (↑(ByteArray.size x5.1.1) : Int) ≤ (↑(ByteArray.size x5.1.1) : Int) then
 (if (0 : Int) ≤ x5.1.2.2.2.2.2.2.2.1 ∧ x5.1.2.2.2.2.2.2.2.1 ≤ (↑(ByteArray.size x5.1.1) : Int) then
 K x5.1.2.2.2.2.2.2.1 (ByteArray.extract x5.1.1 (Int.toNat x5.1.2.2.2.2.2.2.2.1) (Int.toNat (↑(ByteArray.size x5.1.1) : Int)))
 else
 False)
 else
 False)))))
 else
 False)
 else
 (if decide (x5.1.2.2.2.2.2.2.2.1 < x5.1.2.1) = true then
 K (-1 : Int) x5.1.1
 else
 (if decide (x5.1.2.2.2.2.2.2.2.1 > x5.1.2.2.1) = true then
 K (-1 : Int) x5.1.1
 else
 (if decide (x5.1.2.2.2.2.2.2.1 > x5.1.2.2.2.1) = true then
 K (-1 : Int) x5.1.1
 else
 (if (0 : Int) ≤ (↑(ByteArray.size x5.1.1) : Int) ∧ (↑(ByteArray.size x5.1.1) : Int) ≤ (↑(ByteArray.size x5.1.1) : Int) then
 (if (0 : Int) ≤ x5.1.2.2.2.2.2.2.2.1 ∧ x5.1.2.2.2.2.2.2.2.1 ≤ (↑(ByteArray.size x5.1.1) : Int) then
 K x5.1.2.2.2.2.2.2.1 (ByteArray.extract x5.1.1 (Int.toNat x5.1.2.2.2.2.2.2.2.1) (Int.toNat (↑(ByteArray.size x5.1.1) : Int)))
 else
 False)
 else
 False)))))
 else
 False)
 else
 (if decide (x5.1.2.2.2.2.2.2.2.1 < x5.1.2.1) = true then
 K (-1 : Int) x5.1.1
 else
 (if decide (x5.1.2.2.2.2.2.2.2.1 > x5.1.2.2.1) = true then
 K (-1 : Int) x5.1.1
 else
 (if decide (x5.1.2.2.2.2.2.2.1 > x5.1.2.2.2.1) = true then
 K (-1 : Int) x5.1.1
 else
 (if (0 : Int) ≤ (↑(ByteArray.size x5.1.1) : Int) ∧ (↑(ByteArray.size x5.1.1) : Int) ≤ (↑(ByteArray.size x5.1.1) : Int) then
 (if (0 : Int) ≤ x5.1.2.2.2.2.2.2.2.1 ∧ x5.1.2.2.2.2.2.2.2.1 ≤ (↑(ByteArray.size x5.1.1) : Int) then
 K x5.1.2.2.2.2.2.2.1 (ByteArray.extract x5.1.1 (Int.toNat x5.1.2.2.2.2.2.2.2.1) (Int.toNat (↑(ByteArray.size x5.1.1) : Int)))
 else
 False)
 else
 False)))))
def Lepactref17_number_0p : Lp := ⟨3855, [.trim 3855], (.cons 0 .str (.cons 1 (.int .i64) (.cons 2 (.int .i64) (.cons 3 (.int .i64) (.cons 8 (.int .i64) (.cons 9 .str (.cons 10 (.int .i64) (.cons 11 (.int .i64) .nil)))))))), .nil, 0⟩
def Yepactref17_number (a0 : ByteArray) (a1 : Int) (a2 : Int) (a3 : Int) (K : (Int) → (ByteArray) → Prop) : Prop :=
 lp (Lepactref17_number_0 K) ((a0, a1, a2, a3, (0 : Int), ByteArray.mk #[], (0 : Int), (0 : Int), ()), ())
def Xepactref17_number (a0 : ByteArray) (a1 : Int) (a2 : Int) (a3 : Int) (K : (Int) → (ByteArray) → Prop) : Prop := Yepactref17_number a0 a1 a2 a3 K
def Jepactref17_number (X : (ByteArray) → (Int) → (Int) → (Int) → ((Int) → (ByteArray) → Prop) → Prop) : Inst := ⟨73, (.cons .str (.cons (.int .i64) (.cons (.int .i64) (.cons (.int .i64) .nil)))), .nil, (.cons (.int .i64) (.cons .str .nil)), .nil, fun x y K => X x.1 x.2.1 x.2.2.1 x.2.2.2.1 (fun u0 u1 => K (u0, (u1, ())) ())⟩
def Iepactref17_number : Inst := Jepactref17_number Xepactref17_number
theorem Eepactref17_number (x : PL.T (.cons .str (.cons (.int .i64) (.cons (.int .i64) (.cons (.int .i64) .nil))))) (y : PH.T .nil) (K : PL.T (.cons (.int .i64) (.cons .str .nil)) → PH.T .nil → Prop) : Yepactref17_number x.1 x.2.1 x.2.2.1 x.2.2.2.1 (fun u0 u1 => K (u0, (u1, ())) ()) = bodyC (envP Tryz.prog 61 gives ⟨tabC [], tabL [Lepactref17_number_0p]⟩) Tryz.f73 (Tryz.f73.body.getD .skip) (PL.enc (.cons .str (.cons (.int .i64) (.cons (.int .i64) (.cons (.int .i64) .nil)))) x) (PH.enc .nil y) (resK (.cons (.int .i64) (.cons .str .nil)) .nil K) := by kernel_rfl
theorem Iepactref17_number_ok : InstOk Tryz.prog G.1 Iepactref17_number := inst_ok (gives := gives) (is := []) [Lepactref17_number_0p] okNil 61 follows Tryz.func73 (by kernel_rfl) (fun x => by kernel_rfl) (fun x y K => Eepactref17_number x y K)

/- epact/epactref17.dot -/
def Yepactref17_dot (xepactref17_number : (ByteArray) → (Int) → (Int) → (Int) → ((Int) → (ByteArray) → Prop) → Prop) (a0 : ByteArray) (K : (Int) → (ByteArray) → Prop) : Prop :=
 (if decide ((↑(ByteArray.size a0) : Int) < (1 : Int)) = true then
 K (-1 : Int) a0
 else
 (if (0 : Int) ≤ (0 : Int) ∧ (0 : Int) < (↑(ByteArray.size a0) : Int) then
 (if (Eng.bAt a0 (0 : Nat) != (46 : Int)) = true then
 K (-1 : Int) a0
 else
 (if (0 : Int) ≤ (↑(ByteArray.size a0) : Int) ∧ (↑(ByteArray.size a0) : Int) ≤ (↑(ByteArray.size a0) : Int) then
 (if (0 : Int) ≤ (1 : Int) ∧ (1 : Int) ≤ (↑(ByteArray.size a0) : Int) then
 xepactref17_number (ByteArray.extract a0 (1 : Nat) (Int.toNat (↑(ByteArray.size a0) : Int))) (1 : Int) (1 : Int) (9 : Int) (fun r1 r2 =>
 K r1 r2)
 else
 False)
 else
 False))
 else
 False))
def Xepactref17_dot (a0 : ByteArray) (K : (Int) → (ByteArray) → Prop) : Prop := Yepactref17_dot Xepactref17_number a0 K
def Jepactref17_dot (X : (ByteArray) → ((Int) → (ByteArray) → Prop) → Prop) : Inst := ⟨74, (.cons .str .nil), .nil, (.cons (.int .i64) (.cons .str .nil)), .nil, fun x y K => X x.1 (fun u0 u1 => K (u0, (u1, ())) ())⟩
def Iepactref17_dot : Inst := Jepactref17_dot Xepactref17_dot
theorem Eepactref17_dot (xepactref17_number : (ByteArray) → (Int) → (Int) → (Int) → ((Int) → (ByteArray) → Prop) → Prop) (x : PL.T (.cons .str .nil)) (y : PH.T .nil) (K : PL.T (.cons (.int .i64) (.cons .str .nil)) → PH.T .nil → Prop) : Yepactref17_dot xepactref17_number x.1 (fun u0 u1 => K (u0, (u1, ())) ()) = bodyC (envP Tryz.prog 18 gives ⟨tabC [Jepactref17_number xepactref17_number], tabL []⟩) Tryz.f74 (Tryz.f74.body.getD .skip) (PL.enc (.cons .str .nil) x) (PH.enc .nil y) (resK (.cons (.int .i64) (.cons .str .nil)) .nil K) := by kernel_rfl
theorem Iepactref17_dot_ok : InstOk Tryz.prog G.1 Iepactref17_dot := inst_ok (gives := gives) (is := [Iepactref17_number]) [] (okCons Iepactref17_number_ok okNil) 18 follows Tryz.func74 (by kernel_rfl) (fun x => by kernel_rfl) (fun x y K => Eepactref17_dot Xepactref17_number x y K)

/- epact/epactref17.head -/
def Yepactref17_head (xepactref17_number : (ByteArray) → (Int) → (Int) → (Int) → ((Int) → (ByteArray) → Prop) → Prop) (xepactref17_dot : (ByteArray) → ((Int) → (ByteArray) → Prop) → Prop) (a0 : ByteArray) (K : (Int × Int × Int × Int × Int × Unit) → (ByteArray) → Prop) : Prop :=
 (if decide ((↑(ByteArray.size a0) : Int) > (0 : Int)) = true then
 (if (0 : Int) ≤ (0 : Int) ∧ (0 : Int) < (↑(ByteArray.size a0) : Int) then
 (if (Eng.bAt a0 (0 : Nat) == (77 : Int)) = true then
 (if (0 : Int) ≤ (↑(ByteArray.size a0) : Int) ∧ (↑(ByteArray.size a0) : Int) ≤ (↑(ByteArray.size a0) : Int) then
 (if (0 : Int) ≤ (1 : Int) ∧ (1 : Int) ≤ (↑(ByteArray.size a0) : Int) then
 xepactref17_number (ByteArray.extract a0 (1 : Nat) (Int.toNat (↑(ByteArray.size a0) : Int))) (1 : Int) (2 : Int) (12 : Int) (fun r1 r2 =>
 xepactref17_dot r2 (fun r3 r4 =>
 xepactref17_dot r4 (fun r5 r6 =>
 K ((0 : Int), r1, r3, r5, (7200 : Int), ()) r6)))
 else
 False)
 else
 False)
 else
 (if decide ((↑(ByteArray.size a0) : Int) > (0 : Int)) = true then
 (if (0 : Int) ≤ (0 : Int) ∧ (0 : Int) < (↑(ByteArray.size a0) : Int) then
 (if (Eng.bAt a0 (0 : Nat) == (74 : Int)) = true then
 (if (0 : Int) ≤ (↑(ByteArray.size a0) : Int) ∧ (↑(ByteArray.size a0) : Int) ≤ (↑(ByteArray.size a0) : Int) then
 (if (0 : Int) ≤ (1 : Int) ∧ (1 : Int) ≤ (↑(ByteArray.size a0) : Int) then
 xepactref17_number (ByteArray.extract a0 (1 : Nat) (Int.toNat (↑(ByteArray.size a0) : Int))) (1 : Int) (3 : Int) (365 : Int) (fun r7 r8 =>
 K ((1 : Int), r7, (0 : Int), (0 : Int), (7200 : Int), ()) r8)
 else
 False)
 else
 False)
 else
 xepactref17_number a0 (1 : Int) (3 : Int) (365 : Int) (fun r9 r10 =>
 K ((2 : Int), r9, (0 : Int), (0 : Int), (7200 : Int), ()) r10))
 else
 False)
 else
 xepactref17_number a0 (1 : Int) (3 : Int) (365 : Int) (fun r11 r12 =>
 K ((2 : Int), r11, (0 : Int), (0 : Int), (7200 : Int), ()) r12)))
 else
 False)
 else
 (if decide ((↑(ByteArray.size a0) : Int) > (0 : Int)) = true then
 (if (0 : Int) ≤ (0 : Int) ∧ (0 : Int) < (↑(ByteArray.size a0) : Int) then
 (if (Eng.bAt a0 (0 : Nat) == (74 : Int)) = true then
 (if (0 : Int) ≤ (↑(ByteArray.size a0) : Int) ∧ (↑(ByteArray.size a0) : Int) ≤ (↑(ByteArray.size a0) : Int) then
 (if (0 : Int) ≤ (1 : Int) ∧ (1 : Int) ≤ (↑(ByteArray.size a0) : Int) then
 xepactref17_number (ByteArray.extract a0 (1 : Nat) (Int.toNat (↑(ByteArray.size a0) : Int))) (1 : Int) (3 : Int) (365 : Int) (fun r13 r14 =>
 K ((1 : Int), r13, (0 : Int), (0 : Int), (7200 : Int), ()) r14)
 else
 False)
 else
 False)
 else
 xepactref17_number a0 (1 : Int) (3 : Int) (365 : Int) (fun r15 r16 =>
 K ((2 : Int), r15, (0 : Int), (0 : Int), (7200 : Int), ()) r16))
 else
 False)
 else
 xepactref17_number a0 (1 : Int) (3 : Int) (365 : Int) (fun r17 r18 =>
 K ((2 : Int), r17, (0 : Int), (0 : Int), (7200 : Int), ()) r18)))
def Xepactref17_head (a0 : ByteArray) (K : (Int × Int × Int × Int × Int × Unit) → (ByteArray) → Prop) : Prop := Yepactref17_head Xepactref17_number Xepactref17_dot a0 K
def Jepactref17_head (X : (ByteArray) → ((Int × Int × Int × Int × Int × Unit) → (ByteArray) → Prop) → Prop) : Inst := ⟨54, (.cons .str .nil), .nil, (.cons (.agg (.cons (.int .i64) (.cons (.int .i64) (.cons (.int .i64) (.cons (.int .i64) (.cons (.int .i64) .nil)))))) (.cons .str .nil)), .nil, fun x y K => X x.1 (fun u0 u1 => K (u0, (u1, ())) ())⟩
def Iepactref17_head : Inst := Jepactref17_head Xepactref17_head
theorem Eepactref17_head (xepactref17_number : (ByteArray) → (Int) → (Int) → (Int) → ((Int) → (ByteArray) → Prop) → Prop) (xepactref17_dot : (ByteArray) → ((Int) → (ByteArray) → Prop) → Prop) (x : PL.T (.cons .str .nil)) (y : PH.T .nil) (K : PL.T (.cons (.agg (.cons (.int .i64) (.cons (.int .i64) (.cons (.int .i64) (.cons (.int .i64) (.cons (.int .i64) .nil)))))) (.cons .str .nil)) → PH.T .nil → Prop) : Yepactref17_head xepactref17_number xepactref17_dot x.1 (fun u0 u1 => K (u0, (u1, ())) ()) = bodyC (envP Tryz.prog 67 gives ⟨tabC [Jepactref17_number xepactref17_number, Jepactref17_dot xepactref17_dot], tabL []⟩) Tryz.f54 (Tryz.f54.body.getD .skip) (PL.enc (.cons .str .nil) x) (PH.enc .nil y) (resK (.cons (.agg (.cons (.int .i64) (.cons (.int .i64) (.cons (.int .i64) (.cons (.int .i64) (.cons (.int .i64) .nil)))))) (.cons .str .nil)) .nil K) := by kernel_rfl
theorem Iepactref17_head_ok : InstOk Tryz.prog G.1 Iepactref17_head := inst_ok (gives := gives) (is := [Iepactref17_number, Iepactref17_dot]) [] (okCons Iepactref17_number_ok (okCons Iepactref17_dot_ok okNil)) 67 follows Tryz.func54 (by kernel_rfl) (fun x => by kernel_rfl) (fun x y K => Eepactref17_head Xepactref17_number Xepactref17_dot x y K)

/- epact/epactref17.Parse -/
def Yepactref17_Parse (xepactref17_head : (ByteArray) → ((Int × Int × Int × Int × Int × Unit) → (ByteArray) → Prop) → Prop) (xepactref17_Right : (Int × Int × Int × Int × Int × Unit) → ((Bool) → Prop) → Prop) (xepactref17_Time : (ByteArray) → ((Int) → (ByteArray) → (Bool) → Prop) → Prop) (a0 : ByteArray) (K : (Int × Int × Int × Int × Int × Unit) → (ByteArray) → (Bool) → Prop) : Prop :=
 xepactref17_head a0 (fun r1 r2 =>
 xepactref17_Right r1 (fun r3 =>
 (if (!r3) = true then
 K ((0 : Int), (0 : Int), (0 : Int), (0 : Int), (0 : Int), ()) a0 false
 else
 (if decide ((↑(ByteArray.size r2) : Int) > (0 : Int)) = true then
 (if (0 : Int) ≤ (0 : Int) ∧ (0 : Int) < (↑(ByteArray.size r2) : Int) then
 (if (Eng.bAt r2 (0 : Nat) == (47 : Int)) = true then
 (if (0 : Int) ≤ (↑(ByteArray.size r2) : Int) ∧ (↑(ByteArray.size r2) : Int) ≤ (↑(ByteArray.size r2) : Int) then
 (if (0 : Int) ≤ (1 : Int) ∧ (1 : Int) ≤ (↑(ByteArray.size r2) : Int) then
 xepactref17_Time (ByteArray.extract r2 (1 : Nat) (Int.toNat (↑(ByteArray.size r2) : Int))) (fun r4 r5 r6 =>
 (if (!r6) = true then
 K ((0 : Int), (0 : Int), (0 : Int), (0 : Int), (0 : Int), ()) a0 false
 else
 K (r1.1, r1.2.1, r1.2.2.1, r1.2.2.2.1, r4, ()) r5 true))
 else
 False)
 else
 False)
 else
 K r1 r2 true)
 else
 False)
 else
 K r1 r2 true))))
def Xepactref17_Parse (a0 : ByteArray) (K : (Int × Int × Int × Int × Int × Unit) → (ByteArray) → (Bool) → Prop) : Prop := Yepactref17_Parse Xepactref17_head Xepactref17_Right Xepactref17_Time a0 K
def Jepactref17_Parse (X : (ByteArray) → ((Int × Int × Int × Int × Int × Unit) → (ByteArray) → (Bool) → Prop) → Prop) : Inst := ⟨28, (.cons .str .nil), .nil, (.cons (.agg (.cons (.int .i64) (.cons (.int .i64) (.cons (.int .i64) (.cons (.int .i64) (.cons (.int .i64) .nil)))))) (.cons .str (.cons .bool .nil))), .nil, fun x y K => X x.1 (fun u0 u1 u2 => K (u0, (u1, (u2, ()))) ())⟩
def Iepactref17_Parse : Inst := Jepactref17_Parse Xepactref17_Parse
theorem Eepactref17_Parse (xepactref17_head : (ByteArray) → ((Int × Int × Int × Int × Int × Unit) → (ByteArray) → Prop) → Prop) (xepactref17_Right : (Int × Int × Int × Int × Int × Unit) → ((Bool) → Prop) → Prop) (xepactref17_Time : (ByteArray) → ((Int) → (ByteArray) → (Bool) → Prop) → Prop) (x : PL.T (.cons .str .nil)) (y : PH.T .nil) (K : PL.T (.cons (.agg (.cons (.int .i64) (.cons (.int .i64) (.cons (.int .i64) (.cons (.int .i64) (.cons (.int .i64) .nil)))))) (.cons .str (.cons .bool .nil))) → PH.T .nil → Prop) : Yepactref17_Parse xepactref17_head xepactref17_Right xepactref17_Time x.1 (fun u0 u1 u2 => K (u0, (u1, (u2, ()))) ()) = bodyC (envP Tryz.prog 44 gives ⟨tabC [Jepactref17_head xepactref17_head, Jepactref17_Right xepactref17_Right, Jepactref17_Time xepactref17_Time], tabL []⟩) Tryz.f28 (Tryz.f28.body.getD .skip) (PL.enc (.cons .str .nil) x) (PH.enc .nil y) (resK (.cons (.agg (.cons (.int .i64) (.cons (.int .i64) (.cons (.int .i64) (.cons (.int .i64) (.cons (.int .i64) .nil)))))) (.cons .str (.cons .bool .nil))) .nil K) := by kernel_rfl
theorem Iepactref17_Parse_ok : InstOk Tryz.prog G.1 Iepactref17_Parse := inst_ok (gives := gives) (is := [Iepactref17_head, Iepactref17_Right, Iepactref17_Time]) [] (okCons Iepactref17_head_ok (okCons Iepactref17_Right_ok (okCons Iepactref17_Time_ok okNil))) 44 follows Tryz.func28 (by kernel_rfl) (fun x => by kernel_rfl) (fun x y K => Eepactref17_Parse Xepactref17_head Xepactref17_Right Xepactref17_Time x y K)

/- epact/epactref18.Parse -/
def Yepactref18_Parse (xepactref18_name : (ByteArray) → ((ByteArray) → (ByteArray) → (Bool) → Prop) → Prop) (xepactref17_Time : (ByteArray) → ((Int) → (ByteArray) → (Bool) → Prop) → Prop) (xepactref18_checked : (Int × Bool × ByteArray × Int × Bool × ByteArray × Bool × Int × Int × Int × Int × Int × Int × Int × Int × Int × Int × Unit) → ((Int × Bool × ByteArray × Int × Bool × ByteArray × Bool × Int × Int × Int × Int × Int × Int × Int × Int × Int × Int × Unit) → (Bool) → Prop) → Prop) (xepactref17_Parse : (ByteArray) → ((Int × Int × Int × Int × Int × Unit) → (ByteArray) → (Bool) → Prop) → Prop) (a0 : ByteArray) (K : (Int × Bool × ByteArray × Int × Bool × ByteArray × Bool × Int × Int × Int × Int × Int × Int × Int × Int × Int × Int × Unit) → (Bool) → Prop) : Prop :=
 xepactref18_name a0 (fun r1 r2 r3 =>
 xepactref17_Time r2 (fun r4 r5 r6 =>
 (if (!r3) = true then
 K ((0 : Int), false, ByteArray.mk #[], (0 : Int), false, ByteArray.mk #[], false, (0 : Int), (0 : Int), (0 : Int), (0 : Int), (0 : Int), (0 : Int), (0 : Int), (0 : Int), (0 : Int), (0 : Int), ()) false
 else
 (if (!r6) = true then
 K ((0 : Int), false, ByteArray.mk #[], (0 : Int), false, ByteArray.mk #[], false, (0 : Int), (0 : Int), (0 : Int), (0 : Int), (0 : Int), (0 : Int), (0 : Int), (0 : Int), (0 : Int), (0 : Int), ()) false
 else
 (if (ByteArray.toList r5 == ByteArray.toList (ByteArray.mk #[])) = true then
 xepactref18_checked (w64 ((0 : Int) - r4), false, r1, (0 : Int), false, ByteArray.mk #[], false, (0 : Int), (0 : Int), (0 : Int), (0 : Int), (0 : Int), (0 : Int), (0 : Int), (0 : Int), (0 : Int), (0 : Int), ()) (fun r7 r8 =>
 K r7 r8)
 else
 xepactref18_name r5 (fun r9 r10 r11 =>
 (lt (w64 (w64 ((0 : Int) - r4) + (3600 : Int))) fun v12 =>
 xepactref17_Time r10 (fun r13 r14 r15 =>
 (if r15 = true then
 (if (!r11) = true then
 K ((0 : Int), false, ByteArray.mk #[], (0 : Int), false, ByteArray.mk #[], false, (0 : Int), (0 : Int), (0 : Int), (0 : Int), (0 : Int), (0 : Int), (0 : Int), (0 : Int), (0 : Int), (0 : Int), ()) false
 else
 (if ((↑(ByteArray.size r14) : Int) == (0 : Int)) = true then
 K ((0 : Int), false, ByteArray.mk #[], (0 : Int), false, ByteArray.mk #[], false, (0 : Int), (0 : Int), (0 : Int), (0 : Int), (0 : Int), (0 : Int), (0 : Int), (0 : Int), (0 : Int), (0 : Int), ()) false
 else
 (if (0 : Int) ≤ (0 : Int) ∧ (0 : Int) < (↑(ByteArray.size r14) : Int) then
 (if (Eng.bAt r14 (0 : Nat) != (44 : Int)) = true then
 K ((0 : Int), false, ByteArray.mk #[], (0 : Int), false, ByteArray.mk #[], false, (0 : Int), (0 : Int), (0 : Int), (0 : Int), (0 : Int), (0 : Int), (0 : Int), (0 : Int), (0 : Int), (0 : Int), ()) false
 else
 (if (0 : Int) ≤ (↑(ByteArray.size r14) : Int) ∧ (↑(ByteArray.size r14) : Int) ≤ (↑(ByteArray.size r14) : Int) then
 (if (0 : Int) ≤ (1 : Int) ∧ (1 : Int) ≤ (↑(ByteArray.size r14) : Int) then
 xepactref17_Parse (ByteArray.extract r14 (1 : Nat) (Int.toNat (↑(ByteArray.size r14) : Int))) (fun r16 r17 r18 =>
 (if (!r18) = true then
 K ((0 : Int), false, ByteArray.mk #[], (0 : Int), false, ByteArray.mk #[], false, (0 : Int), (0 : Int), (0 : Int), (0 : Int), (0 : Int), (0 : Int), (0 : Int), (0 : Int), (0 : Int), (0 : Int), ()) false
 else
 (if ((↑(ByteArray.size r17) : Int) == (0 : Int)) = true then
 K ((0 : Int), false, ByteArray.mk #[], (0 : Int), false, ByteArray.mk #[], false, (0 : Int), (0 : Int), (0 : Int), (0 : Int), (0 : Int), (0 : Int), (0 : Int), (0 : Int), (0 : Int), (0 : Int), ()) false
 else
 (if (0 : Int) ≤ (0 : Int) ∧ (0 : Int) < (↑(ByteArray.size r17) : Int) then
 (if (Eng.bAt r17 (0 : Nat) != (44 : Int)) = true then
 K ((0 : Int), false, ByteArray.mk #[], (0 : Int), false, ByteArray.mk #[], false, (0 : Int), (0 : Int), (0 : Int), (0 : Int), (0 : Int), (0 : Int), (0 : Int), (0 : Int), (0 : Int), (0 : Int), ()) false
 else
 (if (0 : Int) ≤ (↑(ByteArray.size r17) : Int) ∧ (↑(ByteArray.size r17) : Int) ≤ (↑(ByteArray.size r17) : Int) then
 (if (0 : Int) ≤ (1 : Int) ∧ (1 : Int) ≤ (↑(ByteArray.size r17) : Int) then
 xepactref17_Parse (ByteArray.extract r17 (1 : Nat) (Int.toNat (↑(ByteArray.size r17) : Int))) (fun r19 r20 r21 =>
 (if (!r21) = true then
 K ((0 : Int), false, ByteArray.mk #[], (0 : Int), false, ByteArray.mk #[], false, (0 : Int), (0 : Int), (0 : Int), (0 : Int), (0 : Int), (0 : Int), (0 : Int), (0 : Int), (0 : Int), (0 : Int), ()) false
 else
 (if (!ByteArray.toList r20 == ByteArray.toList (ByteArray.mk #[])) = true then
 K ((0 : Int), false, ByteArray.mk #[], (0 : Int), false, ByteArray.mk #[], false, (0 : Int), (0 : Int), (0 : Int), (0 : Int), (0 : Int), (0 : Int), (0 : Int), (0 : Int), (0 : Int), (0 : Int), ()) false
 else
 xepactref18_checked (w64 ((0 : Int) - r4), false, r1, w64 ((0 : Int) - r13), true, r9, true, r16.1, r16.2.1, r16.2.2.1, r16.2.2.2.1, r16.2.2.2.2.1, r19) (fun r22 r23 =>
 K r22 r23))))
 else
 False)
 else
 False))
 else
 False))))
 else
 False)
 else
 False))
 else
 False)))
 else
 (if (!r11) = true then
 K ((0 : Int), false, ByteArray.mk #[], (0 : Int), false, ByteArray.mk #[], false, (0 : Int), (0 : Int), (0 : Int), (0 : Int), (0 : Int), (0 : Int), (0 : Int), (0 : Int), (0 : Int), (0 : Int), ()) false
 else
 (if ((↑(ByteArray.size r14) : Int) == (0 : Int)) = true then
 K ((0 : Int), false, ByteArray.mk #[], (0 : Int), false, ByteArray.mk #[], false, (0 : Int), (0 : Int), (0 : Int), (0 : Int), (0 : Int), (0 : Int), (0 : Int), (0 : Int), (0 : Int), (0 : Int), ()) false
 else
 (if (0 : Int) ≤ (0 : Int) ∧ (0 : Int) < (↑(ByteArray.size r14) : Int) then
 (if (Eng.bAt r14 (0 : Nat) != (44 : Int)) = true then
 K ((0 : Int), false, ByteArray.mk #[], (0 : Int), false, ByteArray.mk #[], false, (0 : Int), (0 : Int), (0 : Int), (0 : Int), (0 : Int), (0 : Int), (0 : Int), (0 : Int), (0 : Int), (0 : Int), ()) false
 else
 (if (0 : Int) ≤ (↑(ByteArray.size r14) : Int) ∧ (↑(ByteArray.size r14) : Int) ≤ (↑(ByteArray.size r14) : Int) then
 (if (0 : Int) ≤ (1 : Int) ∧ (1 : Int) ≤ (↑(ByteArray.size r14) : Int) then
 xepactref17_Parse (ByteArray.extract r14 (1 : Nat) (Int.toNat (↑(ByteArray.size r14) : Int))) (fun r24 r25 r26 =>
 (if (!r26) = true then
 K ((0 : Int), false, ByteArray.mk #[], (0 : Int), false, ByteArray.mk #[], false, (0 : Int), (0 : Int), (0 : Int), (0 : Int), (0 : Int), (0 : Int), (0 : Int), (0 : Int), (0 : Int), (0 : Int), ()) false
 else
 (if ((↑(ByteArray.size r25) : Int) == (0 : Int)) = true then
 K ((0 : Int), false, ByteArray.mk #[], (0 : Int), false, ByteArray.mk #[], false, (0 : Int), (0 : Int), (0 : Int), (0 : Int), (0 : Int), (0 : Int), (0 : Int), (0 : Int), (0 : Int), (0 : Int), ()) false
 else
 (if (0 : Int) ≤ (0 : Int) ∧ (0 : Int) < (↑(ByteArray.size r25) : Int) then
 (if (Eng.bAt r25 (0 : Nat) != (44 : Int)) = true then
 K ((0 : Int), false, ByteArray.mk #[], (0 : Int), false, ByteArray.mk #[], false, (0 : Int), (0 : Int), (0 : Int), (0 : Int), (0 : Int), (0 : Int), (0 : Int), (0 : Int), (0 : Int), (0 : Int), ()) false
 else
 (if (0 : Int) ≤ (↑(ByteArray.size r25) : Int) ∧ (↑(ByteArray.size r25) : Int) ≤ (↑(ByteArray.size r25) : Int) then
 (if (0 : Int) ≤ (1 : Int) ∧ (1 : Int) ≤ (↑(ByteArray.size r25) : Int) then
 xepactref17_Parse (ByteArray.extract r25 (1 : Nat) (Int.toNat (↑(ByteArray.size r25) : Int))) (fun r27 r28 r29 =>
 (if (!r29) = true then
 K ((0 : Int), false, ByteArray.mk #[], (0 : Int), false, ByteArray.mk #[], false, (0 : Int), (0 : Int), (0 : Int), (0 : Int), (0 : Int), (0 : Int), (0 : Int), (0 : Int), (0 : Int), (0 : Int), ()) false
 else
 (if (!ByteArray.toList r28 == ByteArray.toList (ByteArray.mk #[])) = true then
 K ((0 : Int), false, ByteArray.mk #[], (0 : Int), false, ByteArray.mk #[], false, (0 : Int), (0 : Int), (0 : Int), (0 : Int), (0 : Int), (0 : Int), (0 : Int), (0 : Int), (0 : Int), (0 : Int), ()) false
 else
 xepactref18_checked (w64 ((0 : Int) - r4), false, r1, v12, true, r9, true, r24.1, r24.2.1, r24.2.2.1, r24.2.2.2.1, r24.2.2.2.2.1, r27) (fun r30 r31 =>
 K r30 r31))))
 else
 False)
 else
 False))
 else
 False))))
 else
 False)
 else
 False))
 else
 False))))))))))))
def Xepactref18_Parse (a0 : ByteArray) (K : (Int × Bool × ByteArray × Int × Bool × ByteArray × Bool × Int × Int × Int × Int × Int × Int × Int × Int × Int × Int × Unit) → (Bool) → Prop) : Prop := Yepactref18_Parse Xepactref18_name Xepactref17_Time Xepactref18_checked Xepactref17_Parse a0 K
def Jepactref18_Parse (X : (ByteArray) → ((Int × Bool × ByteArray × Int × Bool × ByteArray × Bool × Int × Int × Int × Int × Int × Int × Int × Int × Int × Int × Unit) → (Bool) → Prop) → Prop) : Inst := ⟨8, (.cons .str .nil), .nil, (.cons (.agg (.cons (.int .i64) (.cons .bool (.cons .str (.cons (.int .i64) (.cons .bool (.cons .str (.cons .bool (.cons (.int .i64) (.cons (.int .i64) (.cons (.int .i64) (.cons (.int .i64) (.cons (.int .i64) (.cons (.int .i64) (.cons (.int .i64) (.cons (.int .i64) (.cons (.int .i64) (.cons (.int .i64) .nil)))))))))))))))))) (.cons .bool .nil)), .nil, fun x y K => X x.1 (fun u0 u1 => K (u0, (u1, ())) ())⟩
def Iepactref18_Parse : Inst := Jepactref18_Parse Xepactref18_Parse
theorem Eepactref18_Parse (xepactref18_name : (ByteArray) → ((ByteArray) → (ByteArray) → (Bool) → Prop) → Prop) (xepactref17_Time : (ByteArray) → ((Int) → (ByteArray) → (Bool) → Prop) → Prop) (xepactref18_checked : (Int × Bool × ByteArray × Int × Bool × ByteArray × Bool × Int × Int × Int × Int × Int × Int × Int × Int × Int × Int × Unit) → ((Int × Bool × ByteArray × Int × Bool × ByteArray × Bool × Int × Int × Int × Int × Int × Int × Int × Int × Int × Int × Unit) → (Bool) → Prop) → Prop) (xepactref17_Parse : (ByteArray) → ((Int × Int × Int × Int × Int × Unit) → (ByteArray) → (Bool) → Prop) → Prop) (x : PL.T (.cons .str .nil)) (y : PH.T .nil) (K : PL.T (.cons (.agg (.cons (.int .i64) (.cons .bool (.cons .str (.cons (.int .i64) (.cons .bool (.cons .str (.cons .bool (.cons (.int .i64) (.cons (.int .i64) (.cons (.int .i64) (.cons (.int .i64) (.cons (.int .i64) (.cons (.int .i64) (.cons (.int .i64) (.cons (.int .i64) (.cons (.int .i64) (.cons (.int .i64) .nil)))))))))))))))))) (.cons .bool .nil)) → PH.T .nil → Prop) : Yepactref18_Parse xepactref18_name xepactref17_Time xepactref18_checked xepactref17_Parse x.1 (fun u0 u1 => K (u0, (u1, ())) ()) = bodyC (envP Tryz.prog 133 gives ⟨tabC [Jepactref18_name xepactref18_name, Jepactref17_Time xepactref17_Time, Jepactref18_checked xepactref18_checked, Jepactref17_Parse xepactref17_Parse], tabL []⟩) Tryz.f8 (Tryz.f8.body.getD .skip) (PL.enc (.cons .str .nil) x) (PH.enc .nil y) (resK (.cons (.agg (.cons (.int .i64) (.cons .bool (.cons .str (.cons (.int .i64) (.cons .bool (.cons .str (.cons .bool (.cons (.int .i64) (.cons (.int .i64) (.cons (.int .i64) (.cons (.int .i64) (.cons (.int .i64) (.cons (.int .i64) (.cons (.int .i64) (.cons (.int .i64) (.cons (.int .i64) (.cons (.int .i64) .nil)))))))))))))))))) (.cons .bool .nil)) .nil K) := by kernel_rfl
theorem Iepactref18_Parse_ok : InstOk Tryz.prog G.1 Iepactref18_Parse := inst_ok (gives := gives) (is := [Iepactref18_name, Iepactref17_Time, Iepactref18_checked, Iepactref17_Parse]) [] (okCons Iepactref18_name_ok (okCons Iepactref17_Time_ok (okCons Iepactref18_checked_ok (okCons Iepactref17_Parse_ok okNil)))) 133 follows Tryz.func8 (by kernel_rfl) (fun x => by kernel_rfl) (fun x y K => Eepactref18_Parse Xepactref18_name Xepactref17_Time Xepactref18_checked Xepactref17_Parse x y K)

/- epact/epactref03.Leap -/
def Yepactref03_Leap (a0 : Int) (K : (Bool) → Prop) : Prop :=
 (if (Int.tmod a0 (4 : Int) == (0 : Int)) = true then
 (if (Int.tmod a0 (100 : Int) != (0 : Int)) = true then
 K true
 else
 K (Int.tmod a0 (400 : Int) == (0 : Int)))
 else
 K (Int.tmod a0 (400 : Int) == (0 : Int)))
def Xepactref03_Leap (a0 : Int) (K : (Bool) → Prop) : Prop := Yepactref03_Leap a0 K
def Jepactref03_Leap (X : (Int) → ((Bool) → Prop) → Prop) : Inst := ⟨80, (.cons (.int .i64) .nil), .nil, (.cons .bool .nil), .nil, fun x y K => X x.1 (fun u0 => K (u0, ()) ())⟩
def Iepactref03_Leap : Inst := Jepactref03_Leap Xepactref03_Leap
theorem Eepactref03_Leap (x : PL.T (.cons (.int .i64) .nil)) (y : PH.T .nil) (K : PL.T (.cons .bool .nil) → PH.T .nil → Prop) : Yepactref03_Leap x.1 (fun u0 => K (u0, ()) ()) = bodyC (envP Tryz.prog 16 gives ⟨tabC [], tabL []⟩) Tryz.f80 (Tryz.f80.body.getD .skip) (PL.enc (.cons (.int .i64) .nil) x) (PH.enc .nil y) (resK (.cons .bool .nil) .nil K) := by kernel_rfl
theorem Iepactref03_Leap_ok : InstOk Tryz.prog G.1 Iepactref03_Leap := inst_ok (gives := gives) (is := []) [] okNil 16 follows Tryz.func80 (by kernel_rfl) (fun x => by kernel_rfl) (fun x y K => Eepactref03_Leap x y K)

/- epact/epactref03.days -/
def Yepactref03_days (xepactref03_Leap : (Int) → ((Bool) → Prop) → Prop) (a0 : Int) (a1 : Int) (K : (Int) → Prop) : Prop :=
 (if (a1 == (2 : Int)) = true then
 xepactref03_Leap a0 (fun r2 =>
 (if r2 = true then
 K (29 : Int)
 else
 (if (0 : Int) ≤ w64 (a1 - (1 : Int)) ∧ w64 (a1 - (1 : Int)) < (12 : Int) then
 (Eng.asInt IntKind.i64 (Eng.getC [Eng.V.c (Value.int IntKind.i64 (31 : Int)), Eng.V.c (Value.int IntKind.i64 (28 : Int)), Eng.V.c (Value.int IntKind.i64 (31 : Int)), Eng.V.c (Value.int IntKind.i64 (30 : Int)), Eng.V.c (Value.int IntKind.i64 (31 : Int)), Eng.V.c (Value.int IntKind.i64 (30 : Int)), Eng.V.c (Value.int IntKind.i64 (31 : Int)), Eng.V.c (Value.int IntKind.i64 (31 : Int)), Eng.V.c (Value.int IntKind.i64 (30 : Int)), Eng.V.c (Value.int IntKind.i64 (31 : Int)), Eng.V.c (Value.int IntKind.i64 (30 : Int)), Eng.V.c (Value.int IntKind.i64 (31 : Int))] (Int.toNat (w64 (a1 - (1 : Int)))) (nat_lit 0)) False fun n3 =>
 K n3)
 else
 False)))
 else
 (if (0 : Int) ≤ w64 (a1 - (1 : Int)) ∧ w64 (a1 - (1 : Int)) < (12 : Int) then
 (Eng.asInt IntKind.i64 (Eng.getC [Eng.V.c (Value.int IntKind.i64 (31 : Int)), Eng.V.c (Value.int IntKind.i64 (28 : Int)), Eng.V.c (Value.int IntKind.i64 (31 : Int)), Eng.V.c (Value.int IntKind.i64 (30 : Int)), Eng.V.c (Value.int IntKind.i64 (31 : Int)), Eng.V.c (Value.int IntKind.i64 (30 : Int)), Eng.V.c (Value.int IntKind.i64 (31 : Int)), Eng.V.c (Value.int IntKind.i64 (31 : Int)), Eng.V.c (Value.int IntKind.i64 (30 : Int)), Eng.V.c (Value.int IntKind.i64 (31 : Int)), Eng.V.c (Value.int IntKind.i64 (30 : Int)), Eng.V.c (Value.int IntKind.i64 (31 : Int))] (Int.toNat (w64 (a1 - (1 : Int)))) (nat_lit 0)) False fun n4 =>
 K n4)
 else
 False))
def Xepactref03_days (a0 : Int) (a1 : Int) (K : (Int) → Prop) : Prop := Yepactref03_days Xepactref03_Leap a0 a1 K
def Jepactref03_days (X : (Int) → (Int) → ((Int) → Prop) → Prop) : Inst := ⟨61, (.cons (.int .i64) (.cons (.int .i64) .nil)), .nil, (.cons (.int .i64) .nil), .nil, fun x y K => X x.1 x.2.1 (fun u0 => K (u0, ()) ())⟩
def Iepactref03_days : Inst := Jepactref03_days Xepactref03_days
theorem Eepactref03_days (xepactref03_Leap : (Int) → ((Bool) → Prop) → Prop) (x : PL.T (.cons (.int .i64) (.cons (.int .i64) .nil))) (y : PH.T .nil) (K : PL.T (.cons (.int .i64) .nil) → PH.T .nil → Prop) : Yepactref03_days xepactref03_Leap x.1 x.2.1 (fun u0 => K (u0, ()) ()) = bodyC (envP Tryz.prog 18 gives ⟨tabC [Jepactref03_Leap xepactref03_Leap], tabL []⟩) Tryz.f61 (Tryz.f61.body.getD .skip) (PL.enc (.cons (.int .i64) (.cons (.int .i64) .nil)) x) (PH.enc .nil y) (resK (.cons (.int .i64) .nil) .nil K) := by kernel_rfl
theorem Iepactref03_days_ok : InstOk Tryz.prog G.1 Iepactref03_days := inst_ok (gives := gives) (is := [Iepactref03_Leap]) [] (okCons Iepactref03_Leap_ok okNil) 18 follows Tryz.func61 (by kernel_rfl) (fun x => by kernel_rfl) (fun x y K => Eepactref03_days Xepactref03_Leap x y K)

/- epact/epactref03.Last -/
def Yepactref03_Last (xepactref03_days : (Int) → (Int) → ((Int) → Prop) → Prop) (a0 : Int) (a1 : Int) (K : (Int) → (Bool) → Prop) : Prop :=
 (if decide (a0 < (1 : Int)) = true then
 K (0 : Int) false
 else
 (if decide (a0 > (9999 : Int)) = true then
 K (0 : Int) false
 else
 (if decide (a1 < (1 : Int)) = true then
 K (0 : Int) false
 else
 (if decide (a1 > (12 : Int)) = true then
 K (0 : Int) false
 else
 xepactref03_days a0 a1 (fun r2 =>
 K r2 true)))))
def Xepactref03_Last (a0 : Int) (a1 : Int) (K : (Int) → (Bool) → Prop) : Prop := Yepactref03_Last Xepactref03_days a0 a1 K
def Jepactref03_Last (X : (Int) → (Int) → ((Int) → (Bool) → Prop) → Prop) : Inst := ⟨81, (.cons (.int .i64) (.cons (.int .i64) .nil)), .nil, (.cons (.int .i64) (.cons .bool .nil)), .nil, fun x y K => X x.1 x.2.1 (fun u0 u1 => K (u0, (u1, ())) ())⟩
def Iepactref03_Last : Inst := Jepactref03_Last Xepactref03_Last
theorem Eepactref03_Last (xepactref03_days : (Int) → (Int) → ((Int) → Prop) → Prop) (x : PL.T (.cons (.int .i64) (.cons (.int .i64) .nil))) (y : PH.T .nil) (K : PL.T (.cons (.int .i64) (.cons .bool .nil)) → PH.T .nil → Prop) : Yepactref03_Last xepactref03_days x.1 x.2.1 (fun u0 u1 => K (u0, (u1, ())) ()) = bodyC (envP Tryz.prog 23 gives ⟨tabC [Jepactref03_days xepactref03_days], tabL []⟩) Tryz.f81 (Tryz.f81.body.getD .skip) (PL.enc (.cons (.int .i64) (.cons (.int .i64) .nil)) x) (PH.enc .nil y) (resK (.cons (.int .i64) (.cons .bool .nil)) .nil K) := by kernel_rfl
theorem Iepactref03_Last_ok : InstOk Tryz.prog G.1 Iepactref03_Last := inst_ok (gives := gives) (is := [Iepactref03_days]) [] (okCons Iepactref03_days_ok okNil) 23 follows Tryz.func81 (by kernel_rfl) (fun x => by kernel_rfl) (fun x y K => Eepactref03_Last Xepactref03_days x y K)

/- epact/epactref03.first -/
def Yepactref03_first (a0 : Int) (K : (Int) → Prop) : Prop :=
 (lt (w64 ((365 : Int) * w64 (a0 - (1 : Int)))) fun v1 =>
 (lt (w64 (Int.tdiv (w64 (a0 - (1 : Int))) (4 : Int))) fun v2 =>
 (lt (w64 (Int.tdiv (w64 (a0 - (1 : Int))) (100 : Int))) fun v3 =>
 (lt (w64 (w64 (v1 + v2) - v3)) fun v4 =>
 (lt (w64 (Int.tdiv (w64 (a0 - (1 : Int))) (400 : Int))) fun v5 =>
 (lt (w64 (w64 (v4 + v5) + (-719162 : Int))) fun v6 =>
 K v6))))))
def Xepactref03_first (a0 : Int) (K : (Int) → Prop) : Prop := Yepactref03_first a0 K
def Jepactref03_first (X : (Int) → ((Int) → Prop) → Prop) : Inst := ⟨60, (.cons (.int .i64) .nil), .nil, (.cons (.int .i64) .nil), .nil, fun x y K => X x.1 (fun u0 => K (u0, ()) ())⟩
def Iepactref03_first : Inst := Jepactref03_first Xepactref03_first
theorem Eepactref03_first (x : PL.T (.cons (.int .i64) .nil)) (y : PH.T .nil) (K : PL.T (.cons (.int .i64) .nil) → PH.T .nil → Prop) : Yepactref03_first x.1 (fun u0 => K (u0, ()) ()) = bodyC (envP Tryz.prog 18 gives ⟨tabC [], tabL []⟩) Tryz.f60 (Tryz.f60.body.getD .skip) (PL.enc (.cons (.int .i64) .nil) x) (PH.enc .nil y) (resK (.cons (.int .i64) .nil) .nil K) := by kernel_rfl
theorem Iepactref03_first_ok : InstOk Tryz.prog G.1 Iepactref03_first := inst_ok (gives := gives) (is := []) [] okNil 18 follows Tryz.func60 (by kernel_rfl) (fun x => by kernel_rfl) (fun x y K => Eepactref03_first x y K)

/- epact/epactref03.Number -/
def Lepactref03_Number_0 (xepactref03_days : (Int) → (Int) → ((Int) → Prop) → Prop) (K : (Int) → (Bool) → Prop) : ((Int × Int × Int × Bool × Int × Int × Unit) × (Unit) → Prop) → (Int × Int × Int × Bool × Int × Int × Unit) × (Unit) → Prop := fun k7 x8 =>
 (if decide (x8.1.2.2.2.2.2.1 < x8.1.2.1) = true then
 xepactref03_days x8.1.1 x8.1.2.2.2.2.2.1 (fun r9 =>
 k7 ((x8.1.1, x8.1.2.1, x8.1.2.2.1, x8.1.2.2.2.1, w64 (x8.1.2.2.2.2.1 + r9), w64 (x8.1.2.2.2.2.2.1 + (1 : Int)), ()), ()))
 else
 K x8.1.2.2.2.2.1 true)
def Lepactref03_Number_0p : Lp := ⟨3267, [.trim 3267], (.cons 0 (.int .i64) (.cons 1 (.int .i64) (.cons 6 (.int .i64) (.cons 7 .bool (.cons 10 (.int .i64) (.cons 11 (.int .i64) .nil)))))), .nil, 0⟩
def Yepactref03_Number (xepactref03_Last : (Int) → (Int) → ((Int) → (Bool) → Prop) → Prop) (xepactref03_first : (Int) → ((Int) → Prop) → Prop) (xepactref03_days : (Int) → (Int) → ((Int) → Prop) → Prop) (a0 : Int) (a1 : Int) (a2 : Int) (K : (Int) → (Bool) → Prop) : Prop :=
 xepactref03_Last a0 a1 (fun r3 r4 =>
 (if (!r4) = true then
 K (0 : Int) false
 else
 (if decide (a2 < (1 : Int)) = true then
 K (0 : Int) false
 else
 (if decide (a2 > r3) = true then
 K (0 : Int) false
 else
 xepactref03_first a0 (fun r5 =>
 (lt (w64 (w64 (r5 + a2) - (1 : Int))) fun v6 =>
 lp (Lepactref03_Number_0 xepactref03_days K) ((a0, a1, (0 : Int), false, v6, (1 : Int), ()), ())))))))
def Xepactref03_Number (a0 : Int) (a1 : Int) (a2 : Int) (K : (Int) → (Bool) → Prop) : Prop := Yepactref03_Number Xepactref03_Last Xepactref03_first Xepactref03_days a0 a1 a2 K
def Jepactref03_Number (X : (Int) → (Int) → (Int) → ((Int) → (Bool) → Prop) → Prop) : Inst := ⟨79, (.cons (.int .i64) (.cons (.int .i64) (.cons (.int .i64) .nil))), .nil, (.cons (.int .i64) (.cons .bool .nil)), .nil, fun x y K => X x.1 x.2.1 x.2.2.1 (fun u0 u1 => K (u0, (u1, ())) ())⟩
def Iepactref03_Number : Inst := Jepactref03_Number Xepactref03_Number
theorem Eepactref03_Number (xepactref03_Last : (Int) → (Int) → ((Int) → (Bool) → Prop) → Prop) (xepactref03_first : (Int) → ((Int) → Prop) → Prop) (xepactref03_days : (Int) → (Int) → ((Int) → Prop) → Prop) (x : PL.T (.cons (.int .i64) (.cons (.int .i64) (.cons (.int .i64) .nil)))) (y : PH.T .nil) (K : PL.T (.cons (.int .i64) (.cons .bool .nil)) → PH.T .nil → Prop) : Yepactref03_Number xepactref03_Last xepactref03_first xepactref03_days x.1 x.2.1 x.2.2.1 (fun u0 u1 => K (u0, (u1, ())) ()) = bodyC (envP Tryz.prog 45 gives ⟨tabC [Jepactref03_Last xepactref03_Last, Jepactref03_first xepactref03_first, Jepactref03_days xepactref03_days], tabL [Lepactref03_Number_0p]⟩) Tryz.f79 (Tryz.f79.body.getD .skip) (PL.enc (.cons (.int .i64) (.cons (.int .i64) (.cons (.int .i64) .nil))) x) (PH.enc .nil y) (resK (.cons (.int .i64) (.cons .bool .nil)) .nil K) := by kernel_rfl
theorem Iepactref03_Number_ok : InstOk Tryz.prog G.1 Iepactref03_Number := inst_ok (gives := gives) (is := [Iepactref03_Last, Iepactref03_first, Iepactref03_days]) [Lepactref03_Number_0p] (okCons Iepactref03_Last_ok (okCons Iepactref03_first_ok (okCons Iepactref03_days_ok okNil))) 45 follows Tryz.func79 (by kernel_rfl) (fun x => by kernel_rfl) (fun x y K => Eepactref03_Number Xepactref03_Last Xepactref03_first Xepactref03_days x y K)

/- epact/epactref03.Week -/
def Yepactref03_Week (a0 : Int) (K : (Int) → Prop) : Prop :=
 (lt (Int.tmod (w64 (Int.tmod a0 (7 : Int) + (11 : Int))) (7 : Int)) fun v1 =>
 K v1)
def Xepactref03_Week (a0 : Int) (K : (Int) → Prop) : Prop := Yepactref03_Week a0 K
def Jepactref03_Week (X : (Int) → ((Int) → Prop) → Prop) : Inst := ⟨82, (.cons (.int .i64) .nil), .nil, (.cons (.int .i64) .nil), .nil, fun x y K => X x.1 (fun u0 => K (u0, ()) ())⟩
def Iepactref03_Week : Inst := Jepactref03_Week Xepactref03_Week
theorem Eepactref03_Week (x : PL.T (.cons (.int .i64) .nil)) (y : PH.T .nil) (K : PL.T (.cons (.int .i64) .nil) → PH.T .nil → Prop) : Yepactref03_Week x.1 (fun u0 => K (u0, ()) ()) = bodyC (envP Tryz.prog 7 gives ⟨tabC [], tabL []⟩) Tryz.f82 (Tryz.f82.body.getD .skip) (PL.enc (.cons (.int .i64) .nil) x) (PH.enc .nil y) (resK (.cons (.int .i64) .nil) .nil K) := by kernel_rfl
theorem Iepactref03_Week_ok : InstOk Tryz.prog G.1 Iepactref03_Week := inst_ok (gives := gives) (is := []) [] okNil 7 follows Tryz.func82 (by kernel_rfl) (fun x => by kernel_rfl) (fun x y K => Eepactref03_Week x y K)

/- epact/epactref17.Day -/
def Lepactref17_Day_0 (xepactref03_Week : (Int) → ((Int) → Prop) → Prop) (K : (Int) → (Bool) → Prop) : ((Unit × Int × Bool × Int × Int × Int × Int × Int × Unit) × ((Int × Int × Int × Int × Int × Unit) × Unit) → Prop) → (Unit × Int × Bool × Int × Int × Int × Int × Int × Unit) × ((Int × Int × Int × Int × Int × Unit) × Unit) → Prop := fun k11 x12 =>
 (if decide (x12.1.2.2.2.2.2.2.2.1 < w64 (x12.1.2.2.2.1 + x12.1.2.2.2.2.1)) = true then
 xepactref03_Week x12.1.2.2.2.2.2.2.2.1 (fun r13 =>
 (if (r13 == x12.2.1.2.2.2.1) = true then
 (if decide (x12.1.2.2.2.2.2.2.1 < x12.2.1.2.2.1) = true then
 k11 (((), x12.1.2.1, x12.1.2.2.1, x12.1.2.2.2.1, x12.1.2.2.2.2.1, x12.1.2.2.2.2.2.2.2.1, w64 (x12.1.2.2.2.2.2.2.1 + (1 : Int)), w64 (x12.1.2.2.2.2.2.2.2.1 + (1 : Int)), ()), x12.2)
 else
 k11 (((), x12.1.2.1, x12.1.2.2.1, x12.1.2.2.2.1, x12.1.2.2.2.2.1, x12.1.2.2.2.2.2.1, x12.1.2.2.2.2.2.2.1, w64 (x12.1.2.2.2.2.2.2.2.1 + (1 : Int)), ()), x12.2))
 else
 k11 (((), x12.1.2.1, x12.1.2.2.1, x12.1.2.2.2.1, x12.1.2.2.2.2.1, x12.1.2.2.2.2.2.1, x12.1.2.2.2.2.2.2.1, w64 (x12.1.2.2.2.2.2.2.2.1 + (1 : Int)), ()), x12.2)))
 else
 K x12.1.2.2.2.2.2.1 true)
def Lepactref17_Day_0p : Lp := ⟨59956, [.trim 59956], (.cons 2 (.ptr 96 0) (.cons 4 (.int .i64) (.cons 5 .bool (.cons 9 (.int .i64) (.cons 11 (.int .i64) (.cons 13 (.int .i64) (.cons 14 (.int .i64) (.cons 15 (.int .i64) .nil)))))))), (.cons 96 (.cells [.int .i64, .int .i64, .int .i64, .int .i64, .int .i64] (.cons (.int .i64) (.cons (.int .i64) (.cons (.int .i64) (.cons (.int .i64) (.cons (.int .i64) .nil)))))) .nil), 0⟩
def Yepactref17_Day (xepactref03_Number : (Int) → (Int) → (Int) → ((Int) → (Bool) → Prop) → Prop) (xepactref17_Right : (Int × Int × Int × Int × Int × Unit) → ((Bool) → Prop) → Prop) (xepactref03_Leap : (Int) → ((Bool) → Prop) → Prop) (xepactref03_Last : (Int) → (Int) → ((Int) → (Bool) → Prop) → Prop) (xepactref03_Week : (Int) → ((Int) → Prop) → Prop) (a0 : Int × Int × Int × Int × Int × Unit) (a1 : Int) (K : (Int) → (Bool) → Prop) : Prop :=
 xepactref03_Number a1 (1 : Int) (1 : Int) (fun r2 r3 =>
 xepactref17_Right a0 (fun r4 =>
 (if (!r4) = true then
 K (0 : Int) false
 else
 (if (!r3) = true then
 K (0 : Int) false
 else
 (if (a0.1 == (1 : Int)) = true then
 (lt (w64 (w64 (r2 + a0.2.1) - (1 : Int))) fun v5 =>
 (if decide (a0.2.1 ≥ (60 : Int)) = true then
 xepactref03_Leap a1 (fun r6 =>
 (if r6 = true then
 K (w64 (v5 + (1 : Int))) true
 else
 K v5 true))
 else
 K v5 true))
 else
 (if (a0.1 == (2 : Int)) = true then
 K (w64 (r2 + a0.2.1)) true
 else
 xepactref03_Number a1 a0.2.1 (1 : Int) (fun r7 r8 =>
 xepactref03_Last a1 a0.2.1 (fun r9 r10 =>
 lp (Lepactref17_Day_0 xepactref03_Week K) (((), (0 : Int), false, r7, r9, (-1 : Int), (0 : Int), r7, ()), a0, ())))))))))
def Xepactref17_Day (a0 : Int × Int × Int × Int × Int × Unit) (a1 : Int) (K : (Int) → (Bool) → Prop) : Prop := Yepactref17_Day Xepactref03_Number Xepactref17_Right Xepactref03_Leap Xepactref03_Last Xepactref03_Week a0 a1 K
def Jepactref17_Day (X : (Int × Int × Int × Int × Int × Unit) → (Int) → ((Int) → (Bool) → Prop) → Prop) : Inst := ⟨56, (.cons (.agg (.cons (.int .i64) (.cons (.int .i64) (.cons (.int .i64) (.cons (.int .i64) (.cons (.int .i64) .nil)))))) (.cons (.int .i64) .nil)), .nil, (.cons (.int .i64) (.cons .bool .nil)), .nil, fun x y K => X x.1 x.2.1 (fun u0 u1 => K (u0, (u1, ())) ())⟩
def Iepactref17_Day : Inst := Jepactref17_Day Xepactref17_Day
theorem Eepactref17_Day (xepactref03_Number : (Int) → (Int) → (Int) → ((Int) → (Bool) → Prop) → Prop) (xepactref17_Right : (Int × Int × Int × Int × Int × Unit) → ((Bool) → Prop) → Prop) (xepactref03_Leap : (Int) → ((Bool) → Prop) → Prop) (xepactref03_Last : (Int) → (Int) → ((Int) → (Bool) → Prop) → Prop) (xepactref03_Week : (Int) → ((Int) → Prop) → Prop) (x : PL.T (.cons (.agg (.cons (.int .i64) (.cons (.int .i64) (.cons (.int .i64) (.cons (.int .i64) (.cons (.int .i64) .nil)))))) (.cons (.int .i64) .nil))) (y : PH.T .nil) (K : PL.T (.cons (.int .i64) (.cons .bool .nil)) → PH.T .nil → Prop) : Yepactref17_Day xepactref03_Number xepactref17_Right xepactref03_Leap xepactref03_Last xepactref03_Week x.1 x.2.1 (fun u0 u1 => K (u0, (u1, ())) ()) = bodyC (envP Tryz.prog 90 gives ⟨tabC [Jepactref03_Number xepactref03_Number, Jepactref17_Right xepactref17_Right, Jepactref03_Leap xepactref03_Leap, Jepactref03_Last xepactref03_Last, Jepactref03_Week xepactref03_Week], tabL [Lepactref17_Day_0p]⟩) Tryz.f56 (Tryz.f56.body.getD .skip) (PL.enc (.cons (.agg (.cons (.int .i64) (.cons (.int .i64) (.cons (.int .i64) (.cons (.int .i64) (.cons (.int .i64) .nil)))))) (.cons (.int .i64) .nil)) x) (PH.enc .nil y) (resK (.cons (.int .i64) (.cons .bool .nil)) .nil K) := by kernel_rfl
theorem Iepactref17_Day_ok : InstOk Tryz.prog G.1 Iepactref17_Day := inst_ok (gives := gives) (is := [Iepactref03_Number, Iepactref17_Right, Iepactref03_Leap, Iepactref03_Last, Iepactref03_Week]) [Lepactref17_Day_0p] (okCons Iepactref03_Number_ok (okCons Iepactref17_Right_ok (okCons Iepactref03_Leap_ok (okCons Iepactref03_Last_ok (okCons Iepactref03_Week_ok okNil))))) 90 follows Tryz.func56 (by kernel_rfl) (fun x => by kernel_rfl) (fun x y K => Eepactref17_Day Xepactref03_Number Xepactref17_Right Xepactref03_Leap Xepactref03_Last Xepactref03_Week x y K)

/- epact/epactref17.At -/
def Yepactref17_At (xepactref17_Day : (Int × Int × Int × Int × Int × Unit) → (Int) → ((Int) → (Bool) → Prop) → Prop) (a0 : Int × Int × Int × Int × Int × Unit) (a1 : Int) (K : (Int) → (Bool) → Prop) : Prop :=
 xepactref17_Day a0 a1 (fun r2 r3 =>
 (if (!r3) = true then
 K (0 : Int) false
 else
 (lt (w64 (w64 ((86400 : Int) * r2) + a0.2.2.2.2.1)) fun v4 =>
 K v4 true)))
def Xepactref17_At (a0 : Int × Int × Int × Int × Int × Unit) (a1 : Int) (K : (Int) → (Bool) → Prop) : Prop := Yepactref17_At Xepactref17_Day a0 a1 K
def Jepactref17_At (X : (Int × Int × Int × Int × Int × Unit) → (Int) → ((Int) → (Bool) → Prop) → Prop) : Inst := ⟨30, (.cons (.agg (.cons (.int .i64) (.cons (.int .i64) (.cons (.int .i64) (.cons (.int .i64) (.cons (.int .i64) .nil)))))) (.cons (.int .i64) .nil)), .nil, (.cons (.int .i64) (.cons .bool .nil)), .nil, fun x y K => X x.1 x.2.1 (fun u0 u1 => K (u0, (u1, ())) ())⟩
def Iepactref17_At : Inst := Jepactref17_At Xepactref17_At
theorem Eepactref17_At (xepactref17_Day : (Int × Int × Int × Int × Int × Unit) → (Int) → ((Int) → (Bool) → Prop) → Prop) (x : PL.T (.cons (.agg (.cons (.int .i64) (.cons (.int .i64) (.cons (.int .i64) (.cons (.int .i64) (.cons (.int .i64) .nil)))))) (.cons (.int .i64) .nil))) (y : PH.T .nil) (K : PL.T (.cons (.int .i64) (.cons .bool .nil)) → PH.T .nil → Prop) : Yepactref17_At xepactref17_Day x.1 x.2.1 (fun u0 u1 => K (u0, (u1, ())) ()) = bodyC (envP Tryz.prog 21 gives ⟨tabC [Jepactref17_Day xepactref17_Day], tabL []⟩) Tryz.f30 (Tryz.f30.body.getD .skip) (PL.enc (.cons (.agg (.cons (.int .i64) (.cons (.int .i64) (.cons (.int .i64) (.cons (.int .i64) (.cons (.int .i64) .nil)))))) (.cons (.int .i64) .nil)) x) (PH.enc .nil y) (resK (.cons (.int .i64) (.cons .bool .nil)) .nil K) := by kernel_rfl
theorem Iepactref17_At_ok : InstOk Tryz.prog G.1 Iepactref17_At := inst_ok (gives := gives) (is := [Iepactref17_Day]) [] (okCons Iepactref17_Day_ok okNil) 21 follows Tryz.func30 (by kernel_rfl) (fun x => by kernel_rfl) (fun x y K => Eepactref17_At Xepactref17_Day x y K)

end Go.Proofs.YtcopbcfekmbhlaaGreatDoor
end
section
set_option linter.unusedVariables false
set_option linter.unusedSimpArgs false
namespace Go.Proofs.YtcopbcfekmbhlaaGreatDoor
open Go Go.Proofs.YtcopbcfekmbhlaaGreatDoor.Eng
set_option linter.unusedVariables false
set_option maxRecDepth 100000
set_option maxHeartbeats 4000000
variable {G : Gs}
/- epact/epactref18.Span -/
def Yepactref18_Span (xepactref18_Right : (Int × Bool × ByteArray × Int × Bool × ByteArray × Bool × Int × Int × Int × Int × Int × Int × Int × Int × Int × Int × Unit) → ((Bool) → Prop) → Prop) (xepactref17_At : (Int × Int × Int × Int × Int × Unit) → (Int) → ((Int) → (Bool) → Prop) → Prop) (a0 : Int × Bool × ByteArray × Int × Bool × ByteArray × Bool × Int × Int × Int × Int × Int × Int × Int × Int × Int × Int × Unit) (a1 : Int) (K : (Int) → (Int) → (Bool) → Prop) : Prop :=
 xepactref18_Right a0 (fun r2 =>
 (if (!r2) = true then
 K (0 : Int) (0 : Int) false
 else
 (if (!a0.2.2.2.2.2.2.1) = true then
 K (0 : Int) (0 : Int) false
 else
 xepactref17_At (a0.2.2.2.2.2.2.2.1, a0.2.2.2.2.2.2.2.2.1, a0.2.2.2.2.2.2.2.2.2.1, a0.2.2.2.2.2.2.2.2.2.2.1, a0.2.2.2.2.2.2.2.2.2.2.2.1, ()) a1 (fun r3 r4 =>
 xepactref17_At a0.2.2.2.2.2.2.2.2.2.2.2.2 a1 (fun r5 r6 =>
 (if (!r4) = true then
 K (0 : Int) (0 : Int) false
 else
 K (w64 (r3 - a0.1)) (w64 (r5 - a0.2.2.2.1)) true))))))
def Xepactref18_Span (a0 : Int × Bool × ByteArray × Int × Bool × ByteArray × Bool × Int × Int × Int × Int × Int × Int × Int × Int × Int × Int × Unit) (a1 : Int) (K : (Int) → (Int) → (Bool) → Prop) : Prop := Yepactref18_Span Xepactref18_Right Xepactref17_At a0 a1 K
def Jepactref18_Span (X : (Int × Bool × ByteArray × Int × Bool × ByteArray × Bool × Int × Int × Int × Int × Int × Int × Int × Int × Int × Int × Unit) → (Int) → ((Int) → (Int) → (Bool) → Prop) → Prop) : Inst := ⟨10, (.cons (.agg (.cons (.int .i64) (.cons .bool (.cons .str (.cons (.int .i64) (.cons .bool (.cons .str (.cons .bool (.cons (.int .i64) (.cons (.int .i64) (.cons (.int .i64) (.cons (.int .i64) (.cons (.int .i64) (.cons (.int .i64) (.cons (.int .i64) (.cons (.int .i64) (.cons (.int .i64) (.cons (.int .i64) .nil)))))))))))))))))) (.cons (.int .i64) .nil)), .nil, (.cons (.int .i64) (.cons (.int .i64) (.cons .bool .nil))), .nil, fun x y K => X x.1 x.2.1 (fun u0 u1 u2 => K (u0, (u1, (u2, ()))) ())⟩
def Iepactref18_Span : Inst := Jepactref18_Span Xepactref18_Span
theorem Eepactref18_Span (xepactref18_Right : (Int × Bool × ByteArray × Int × Bool × ByteArray × Bool × Int × Int × Int × Int × Int × Int × Int × Int × Int × Int × Unit) → ((Bool) → Prop) → Prop) (xepactref17_At : (Int × Int × Int × Int × Int × Unit) → (Int) → ((Int) → (Bool) → Prop) → Prop) (x : PL.T (.cons (.agg (.cons (.int .i64) (.cons .bool (.cons .str (.cons (.int .i64) (.cons .bool (.cons .str (.cons .bool (.cons (.int .i64) (.cons (.int .i64) (.cons (.int .i64) (.cons (.int .i64) (.cons (.int .i64) (.cons (.int .i64) (.cons (.int .i64) (.cons (.int .i64) (.cons (.int .i64) (.cons (.int .i64) .nil)))))))))))))))))) (.cons (.int .i64) .nil))) (y : PH.T .nil) (K : PL.T (.cons (.int .i64) (.cons (.int .i64) (.cons .bool .nil))) → PH.T .nil → Prop) : Yepactref18_Span xepactref18_Right xepactref17_At x.1 x.2.1 (fun u0 u1 u2 => K (u0, (u1, (u2, ()))) ()) = bodyC (envP Tryz.prog 45 gives ⟨tabC [Jepactref18_Right xepactref18_Right, Jepactref17_At xepactref17_At], tabL []⟩) Tryz.f10 (Tryz.f10.body.getD .skip) (PL.enc (.cons (.agg (.cons (.int .i64) (.cons .bool (.cons .str (.cons (.int .i64) (.cons .bool (.cons .str (.cons .bool (.cons (.int .i64) (.cons (.int .i64) (.cons (.int .i64) (.cons (.int .i64) (.cons (.int .i64) (.cons (.int .i64) (.cons (.int .i64) (.cons (.int .i64) (.cons (.int .i64) (.cons (.int .i64) .nil)))))))))))))))))) (.cons (.int .i64) .nil)) x) (PH.enc .nil y) (resK (.cons (.int .i64) (.cons (.int .i64) (.cons .bool .nil))) .nil K) := by kernel_rfl
theorem Iepactref18_Span_ok : InstOk Tryz.prog G.1 Iepactref18_Span := inst_ok (gives := gives) (is := [Iepactref18_Right, Iepactref17_At]) [] (okCons Iepactref18_Right_ok (okCons Iepactref17_At_ok okNil)) 45 follows Tryz.func10 (by kernel_rfl) (fun x => by kernel_rfl) (fun x y K => Eepactref18_Span Xepactref18_Right Xepactref17_At x y K)

/- epact/epactref01.Add -/
def Yepactref01_Add (a0 : Int) (a1 : Int) (K : (Int) → (Bool) → Prop) : Prop :=
 (if decide (a1 > (0 : Int)) = true then
 (if decide (a0 > w64 ((9223372036854775807 : Int) - a1)) = true then
 K (0 : Int) false
 else
 (if decide (a1 < (0 : Int)) = true then
 (if decide (a0 < w64 ((-9223372036854775808 : Int) - a1)) = true then
 K (0 : Int) false
 else
 K (w64 (a0 + a1)) true)
 else
 K (w64 (a0 + a1)) true))
 else
 (if decide (a1 < (0 : Int)) = true then
 (if decide (a0 < w64 ((-9223372036854775808 : Int) - a1)) = true then
 K (0 : Int) false
 else
 K (w64 (a0 + a1)) true)
 else
 K (w64 (a0 + a1)) true))
def Xepactref01_Add (a0 : Int) (a1 : Int) (K : (Int) → (Bool) → Prop) : Prop := Yepactref01_Add a0 a1 K
def Jepactref01_Add (X : (Int) → (Int) → ((Int) → (Bool) → Prop) → Prop) : Inst := ⟨37, (.cons (.int .i64) (.cons (.int .i64) .nil)), .nil, (.cons (.int .i64) (.cons .bool .nil)), .nil, fun x y K => X x.1 x.2.1 (fun u0 u1 => K (u0, (u1, ())) ())⟩
def Iepactref01_Add : Inst := Jepactref01_Add Xepactref01_Add
theorem Eepactref01_Add (x : PL.T (.cons (.int .i64) (.cons (.int .i64) .nil))) (y : PH.T .nil) (K : PL.T (.cons (.int .i64) (.cons .bool .nil)) → PH.T .nil → Prop) : Yepactref01_Add x.1 x.2.1 (fun u0 u1 => K (u0, (u1, ())) ()) = bodyC (envP Tryz.prog 27 gives ⟨tabC [], tabL []⟩) Tryz.f37 (Tryz.f37.body.getD .skip) (PL.enc (.cons (.int .i64) (.cons (.int .i64) .nil)) x) (PH.enc .nil y) (resK (.cons (.int .i64) (.cons .bool .nil)) .nil K) := by kernel_rfl
theorem Iepactref01_Add_ok : InstOk Tryz.prog G.1 Iepactref01_Add := inst_ok (gives := gives) (is := []) [] okNil 27 follows Tryz.func37 (by kernel_rfl) (fun x => by kernel_rfl) (fun x y K => Eepactref01_Add x y K)

/- epact/epactref01.Div -/
def Yepactref01_Div (a0 : Int) (a1 : Int) (K : (Int) → (Int) → (Bool) → Prop) : Prop :=
 (if decide (a1 < (1 : Int)) = true then
 K (0 : Int) (0 : Int) false
 else
 (if a1 = (0 : Int) then
 False
 else
 (if a1 = (0 : Int) then
 False
 else
 (if decide (Int.tmod a0 a1 < (0 : Int)) = true then
 (lt (w64 (w64 (Int.tdiv a0 a1) - (1 : Int))) fun v2 =>
 K v2 (w64 (Int.tmod a0 a1 + a1)) true)
 else
 K (w64 (Int.tdiv a0 a1)) (Int.tmod a0 a1) true))))
def Xepactref01_Div (a0 : Int) (a1 : Int) (K : (Int) → (Int) → (Bool) → Prop) : Prop := Yepactref01_Div a0 a1 K
def Jepactref01_Div (X : (Int) → (Int) → ((Int) → (Int) → (Bool) → Prop) → Prop) : Inst := ⟨38, (.cons (.int .i64) (.cons (.int .i64) .nil)), .nil, (.cons (.int .i64) (.cons (.int .i64) (.cons .bool .nil))), .nil, fun x y K => X x.1 x.2.1 (fun u0 u1 u2 => K (u0, (u1, (u2, ()))) ())⟩
def Iepactref01_Div : Inst := Jepactref01_Div Xepactref01_Div
theorem Eepactref01_Div (x : PL.T (.cons (.int .i64) (.cons (.int .i64) .nil))) (y : PH.T .nil) (K : PL.T (.cons (.int .i64) (.cons (.int .i64) (.cons .bool .nil))) → PH.T .nil → Prop) : Yepactref01_Div x.1 x.2.1 (fun u0 u1 u2 => K (u0, (u1, (u2, ()))) ()) = bodyC (envP Tryz.prog 26 gives ⟨tabC [], tabL []⟩) Tryz.f38 (Tryz.f38.body.getD .skip) (PL.enc (.cons (.int .i64) (.cons (.int .i64) .nil)) x) (PH.enc .nil y) (resK (.cons (.int .i64) (.cons (.int .i64) (.cons .bool .nil))) .nil K) := by kernel_rfl
theorem Iepactref01_Div_ok : InstOk Tryz.prog G.1 Iepactref01_Div := inst_ok (gives := gives) (is := []) [] okNil 26 follows Tryz.func38 (by kernel_rfl) (fun x => by kernel_rfl) (fun x y K => Eepactref01_Div x y K)

/- epact/epactref03.Date -/
def Lepactref03_Date_1 (xepactref03_days : (Int) → (Int) → ((Int) → Prop) → Prop) (K : (Int) → (Int) → (Int) → (Bool) → Prop) (k2 : (Int × Int × Int × Int × Bool × Int × Unit) × (Unit) → Prop) : ((Int × Int × Int × Bool × Int × Int × Int × Unit) × (Unit) → Prop) → (Int × Int × Int × Bool × Int × Int × Int × Unit) × (Unit) → Prop := fun k6 x7 =>
 xepactref03_days x7.1.2.2.2.2.1 x7.1.2.2.2.2.2.2.1 (fun r8 =>
 (if decide (x7.1.2.2.2.2.2.1 ≥ r8) = true then
 xepactref03_days x7.1.2.2.2.2.1 x7.1.2.2.2.2.2.2.1 (fun r9 =>
 k6 ((x7.1.1, x7.1.2.1, x7.1.2.2.1, x7.1.2.2.2.1, x7.1.2.2.2.2.1, w64 (x7.1.2.2.2.2.2.1 - r9), w64 (x7.1.2.2.2.2.2.2.1 + (1 : Int)), ()), ()))
 else
 K x7.1.2.2.2.2.1 x7.1.2.2.2.2.2.2.1 (w64 (x7.1.2.2.2.2.2.1 + (1 : Int))) true))
def Lepactref03_Date_1p : Lp := ⟨508, [.trim 508], (.cons 2 (.int .i64) (.cons 3 (.int .i64) (.cons 4 (.int .i64) (.cons 5 .bool (.cons 6 (.int .i64) (.cons 7 (.int .i64) (.cons 8 (.int .i64) .nil))))))), .nil, 0⟩
def Lepactref03_Date_0 (xepactref03_first : (Int) → ((Int) → Prop) → Prop) (xepactref03_days : (Int) → (Int) → ((Int) → Prop) → Prop) (K : (Int) → (Int) → (Int) → (Bool) → Prop) : ((Int × Int × Int × Int × Bool × Int × Unit) × (Unit) → Prop) → (Int × Int × Int × Int × Bool × Int × Unit) × (Unit) → Prop := fun k2 x3 =>
 xepactref03_first (w64 (x3.1.2.2.2.2.2.1 + (1 : Int))) (fun r4 =>
 (if decide (r4 ≤ x3.1.1) = true then
 k2 ((x3.1.1, x3.1.2.1, x3.1.2.2.1, x3.1.2.2.2.1, x3.1.2.2.2.2.1, w64 (x3.1.2.2.2.2.2.1 + (1 : Int)), ()), ())
 else
 xepactref03_first x3.1.2.2.2.2.2.1 (fun r5 =>
 lp (Lepactref03_Date_1 xepactref03_days K k2) ((x3.1.2.1, x3.1.2.2.1, x3.1.2.2.2.1, x3.1.2.2.2.2.1, x3.1.2.2.2.2.2.1, w64 (x3.1.1 - r5), (1 : Int), ()), ()))))
def Lepactref03_Date_0p : Lp := ⟨125, [.trim 125], (.cons 0 (.int .i64) (.cons 2 (.int .i64) (.cons 3 (.int .i64) (.cons 4 (.int .i64) (.cons 5 .bool (.cons 6 (.int .i64) .nil)))))), .nil, 0⟩
def Yepactref03_Date (xepactref03_first : (Int) → ((Int) → Prop) → Prop) (xepactref03_days : (Int) → (Int) → ((Int) → Prop) → Prop) (a0 : Int) (K : (Int) → (Int) → (Int) → (Bool) → Prop) : Prop :=
 (if decide (a0 < (-719162 : Int)) = true then
 K (0 : Int) (0 : Int) (0 : Int) false
 else
 (if decide (a0 > (2932896 : Int)) = true then
 K (0 : Int) (0 : Int) (0 : Int) false
 else
 (lt (w64 (Int.tdiv (w64 (a0 - (-719162 : Int))) (366 : Int))) fun v1 =>
 lp (Lepactref03_Date_0 xepactref03_first xepactref03_days K) ((a0, (0 : Int), (0 : Int), (0 : Int), false, w64 (v1 + (1 : Int)), ()), ()))))
def Xepactref03_Date (a0 : Int) (K : (Int) → (Int) → (Int) → (Bool) → Prop) : Prop := Yepactref03_Date Xepactref03_first Xepactref03_days a0 K
def Jepactref03_Date (X : (Int) → ((Int) → (Int) → (Int) → (Bool) → Prop) → Prop) : Inst := ⟨39, (.cons (.int .i64) .nil), .nil, (.cons (.int .i64) (.cons (.int .i64) (.cons (.int .i64) (.cons .bool .nil)))), .nil, fun x y K => X x.1 (fun u0 u1 u2 u3 => K (u0, (u1, (u2, (u3, ())))) ())⟩
def Iepactref03_Date : Inst := Jepactref03_Date Xepactref03_Date
theorem Eepactref03_Date (xepactref03_first : (Int) → ((Int) → Prop) → Prop) (xepactref03_days : (Int) → (Int) → ((Int) → Prop) → Prop) (x : PL.T (.cons (.int .i64) .nil)) (y : PH.T .nil) (K : PL.T (.cons (.int .i64) (.cons (.int .i64) (.cons (.int .i64) (.cons .bool .nil)))) → PH.T .nil → Prop) : Yepactref03_Date xepactref03_first xepactref03_days x.1 (fun u0 u1 u2 u3 => K (u0, (u1, (u2, (u3, ())))) ()) = bodyC (envP Tryz.prog 46 gives ⟨tabC [Jepactref03_first xepactref03_first, Jepactref03_days xepactref03_days], tabL [Lepactref03_Date_0p, Lepactref03_Date_1p]⟩) Tryz.f39 (Tryz.f39.body.getD .skip) (PL.enc (.cons (.int .i64) .nil) x) (PH.enc .nil y) (resK (.cons (.int .i64) (.cons (.int .i64) (.cons (.int .i64) (.cons .bool .nil)))) .nil K) := by kernel_rfl
theorem Iepactref03_Date_ok : InstOk Tryz.prog G.1 Iepactref03_Date := inst_ok (gives := gives) (is := [Iepactref03_first, Iepactref03_days]) [Lepactref03_Date_0p, Lepactref03_Date_1p] (okCons Iepactref03_first_ok (okCons Iepactref03_days_ok okNil)) 46 follows Tryz.func39 (by kernel_rfl) (fun x => by kernel_rfl) (fun x y K => Eepactref03_Date Xepactref03_first Xepactref03_days x y K)

/- epact/epactref18.Lookup -/
def Yepactref18_Lookup (xepactref01_Add : (Int) → (Int) → ((Int) → (Bool) → Prop) → Prop) (xepactref01_Div : (Int) → (Int) → ((Int) → (Int) → (Bool) → Prop) → Prop) (xepactref03_Date : (Int) → ((Int) → (Int) → (Int) → (Bool) → Prop) → Prop) (xepactref18_Span : (Int × Bool × ByteArray × Int × Bool × ByteArray × Bool × Int × Int × Int × Int × Int × Int × Int × Int × Int × Int × Unit) → (Int) → ((Int) → (Int) → (Bool) → Prop) → Prop) (a0 : Int × Bool × ByteArray × Int × Bool × ByteArray × Bool × Int × Int × Int × Int × Int × Int × Int × Int × Int × Int × Unit) (a1 : Int) (K : (Int × Bool × ByteArray × Unit) → Prop) : Prop :=
 xepactref01_Add a1 a0.1 (fun r2 r3 =>
 xepactref01_Div r2 (86400 : Int) (fun r4 r5 r6 =>
 xepactref03_Date r4 (fun r7 r8 r9 r10 =>
 xepactref18_Span a0 r7 (fun r11 r12 r13 =>
 (if (!r3) = true then
 K (a0.1, a0.2.1, a0.2.2.1, ())
 else
 (if (!r10) = true then
 K (a0.1, a0.2.1, a0.2.2.1, ())
 else
 (if (!r13) = true then
 K (a0.1, a0.2.1, a0.2.2.1, ())
 else
 (if decide (r11 < r12) = true then
 (if decide (a1 ≥ r11) = true then
 (if decide (a1 < r12) = true then
 K (a0.2.2.2.1, a0.2.2.2.2.1, a0.2.2.2.2.2.1, ())
 else
 (if decide (r11 ≥ r12) = true then
 (if decide (a1 ≥ r11) = true then
 K (a0.2.2.2.1, a0.2.2.2.2.1, a0.2.2.2.2.2.1, ())
 else
 (if decide (a1 < r12) = true then
 K (a0.2.2.2.1, a0.2.2.2.2.1, a0.2.2.2.2.2.1, ())
 else
 K (a0.1, a0.2.1, a0.2.2.1, ())))
 else
 K (a0.1, a0.2.1, a0.2.2.1, ())))
 else
 (if decide (r11 ≥ r12) = true then
 (if decide (a1 ≥ r11) = true then
 K (a0.2.2.2.1, a0.2.2.2.2.1, a0.2.2.2.2.2.1, ())
 else
 (if decide (a1 < r12) = true then
 K (a0.2.2.2.1, a0.2.2.2.2.1, a0.2.2.2.2.2.1, ())
 else
 K (a0.1, a0.2.1, a0.2.2.1, ())))
 else
 K (a0.1, a0.2.1, a0.2.2.1, ())))
 else
 (if decide (r11 ≥ r12) = true then
 (if decide (a1 ≥ r11) = true then
 K (a0.2.2.2.1, a0.2.2.2.2.1, a0.2.2.2.2.2.1, ())
 else
 (if decide (a1 < r12) = true then
 K (a0.2.2.2.1, a0.2.2.2.2.1, a0.2.2.2.2.2.1, ())
 else
 K (a0.1, a0.2.1, a0.2.2.1, ())))
 else
 K (a0.1, a0.2.1, a0.2.2.1, ()))))))))))
def Xepactref18_Lookup (a0 : Int × Bool × ByteArray × Int × Bool × ByteArray × Bool × Int × Int × Int × Int × Int × Int × Int × Int × Int × Int × Unit) (a1 : Int) (K : (Int × Bool × ByteArray × Unit) → Prop) : Prop := Yepactref18_Lookup Xepactref01_Add Xepactref01_Div Xepactref03_Date Xepactref18_Span a0 a1 K
def Jepactref18_Lookup (X : (Int × Bool × ByteArray × Int × Bool × ByteArray × Bool × Int × Int × Int × Int × Int × Int × Int × Int × Int × Int × Unit) → (Int) → ((Int × Bool × ByteArray × Unit) → Prop) → Prop) : Inst := ⟨14, (.cons (.agg (.cons (.int .i64) (.cons .bool (.cons .str (.cons (.int .i64) (.cons .bool (.cons .str (.cons .bool (.cons (.int .i64) (.cons (.int .i64) (.cons (.int .i64) (.cons (.int .i64) (.cons (.int .i64) (.cons (.int .i64) (.cons (.int .i64) (.cons (.int .i64) (.cons (.int .i64) (.cons (.int .i64) .nil)))))))))))))))))) (.cons (.int .i64) .nil)), .nil, (.cons (.agg (.cons (.int .i64) (.cons .bool (.cons .str .nil)))) .nil), .nil, fun x y K => X x.1 x.2.1 (fun u0 => K (u0, ()) ())⟩
def Iepactref18_Lookup : Inst := Jepactref18_Lookup Xepactref18_Lookup
theorem Eepactref18_Lookup (xepactref01_Add : (Int) → (Int) → ((Int) → (Bool) → Prop) → Prop) (xepactref01_Div : (Int) → (Int) → ((Int) → (Int) → (Bool) → Prop) → Prop) (xepactref03_Date : (Int) → ((Int) → (Int) → (Int) → (Bool) → Prop) → Prop) (xepactref18_Span : (Int × Bool × ByteArray × Int × Bool × ByteArray × Bool × Int × Int × Int × Int × Int × Int × Int × Int × Int × Int × Unit) → (Int) → ((Int) → (Int) → (Bool) → Prop) → Prop) (x : PL.T (.cons (.agg (.cons (.int .i64) (.cons .bool (.cons .str (.cons (.int .i64) (.cons .bool (.cons .str (.cons .bool (.cons (.int .i64) (.cons (.int .i64) (.cons (.int .i64) (.cons (.int .i64) (.cons (.int .i64) (.cons (.int .i64) (.cons (.int .i64) (.cons (.int .i64) (.cons (.int .i64) (.cons (.int .i64) .nil)))))))))))))))))) (.cons (.int .i64) .nil))) (y : PH.T .nil) (K : PL.T (.cons (.agg (.cons (.int .i64) (.cons .bool (.cons .str .nil)))) .nil) → PH.T .nil → Prop) : Yepactref18_Lookup xepactref01_Add xepactref01_Div xepactref03_Date xepactref18_Span x.1 x.2.1 (fun u0 => K (u0, ()) ()) = bodyC (envP Tryz.prog 89 gives ⟨tabC [Jepactref01_Add xepactref01_Add, Jepactref01_Div xepactref01_Div, Jepactref03_Date xepactref03_Date, Jepactref18_Span xepactref18_Span], tabL []⟩) Tryz.f14 (Tryz.f14.body.getD .skip) (PL.enc (.cons (.agg (.cons (.int .i64) (.cons .bool (.cons .str (.cons (.int .i64) (.cons .bool (.cons .str (.cons .bool (.cons (.int .i64) (.cons (.int .i64) (.cons (.int .i64) (.cons (.int .i64) (.cons (.int .i64) (.cons (.int .i64) (.cons (.int .i64) (.cons (.int .i64) (.cons (.int .i64) (.cons (.int .i64) .nil)))))))))))))))))) (.cons (.int .i64) .nil)) x) (PH.enc .nil y) (resK (.cons (.agg (.cons (.int .i64) (.cons .bool (.cons .str .nil)))) .nil) .nil K) := by kernel_rfl
theorem Iepactref18_Lookup_ok : InstOk Tryz.prog G.1 Iepactref18_Lookup := inst_ok (gives := gives) (is := [Iepactref01_Add, Iepactref01_Div, Iepactref03_Date, Iepactref18_Span]) [] (okCons Iepactref01_Add_ok (okCons Iepactref01_Div_ok (okCons Iepactref03_Date_ok (okCons Iepactref18_Span_ok okNil)))) 89 follows Tryz.func14 (by kernel_rfl) (fun x => by kernel_rfl) (fun x y K => Eepactref18_Lookup Xepactref01_Add Xepactref01_Div Xepactref03_Date Xepactref18_Span x y K)

/- epact/epactlaw18.FootTells -/
def Yepactlaw18_FootTells (xepactlaw18_small : ((Bool) → Prop) → Prop) (xfoot_Text : (Int × Bool × ByteArray × Int × Bool × ByteArray × Bool × Int × Int × Int × Int × Int × Int × Int × Int × Int × Int × Unit) → ((ByteArray) → (Bool) → Prop) → Prop) (xepactref18_Text : (Int × Bool × ByteArray × Int × Bool × ByteArray × Bool × Int × Int × Int × Int × Int × Int × Int × Int × Int × Int × Unit) → ((ByteArray) → (Bool) → Prop) → Prop) (xfoot_Parse : (ByteArray) → ((Int × Bool × ByteArray × Int × Bool × ByteArray × Bool × Int × Int × Int × Int × Int × Int × Int × Int × Int × Int × Unit) → (Bool) → Prop) → Prop) (xepactref18_Parse : (ByteArray) → ((Int × Bool × ByteArray × Int × Bool × ByteArray × Bool × Int × Int × Int × Int × Int × Int × Int × Int × Int × Int × Unit) → (Bool) → Prop) → Prop) (xfoot_Span : (Int × Bool × ByteArray × Int × Bool × ByteArray × Bool × Int × Int × Int × Int × Int × Int × Int × Int × Int × Int × Unit) → (Int) → ((Int) → (Int) → (Bool) → Prop) → Prop) (xepactref18_Span : (Int × Bool × ByteArray × Int × Bool × ByteArray × Bool × Int × Int × Int × Int × Int × Int × Int × Int × Int × Int × Unit) → (Int) → ((Int) → (Int) → (Bool) → Prop) → Prop) (xfoot_Right : (Int × Bool × ByteArray × Int × Bool × ByteArray × Bool × Int × Int × Int × Int × Int × Int × Int × Int × Int × Int × Unit) → ((Bool) → Prop) → Prop) (xepactref18_Right : (Int × Bool × ByteArray × Int × Bool × ByteArray × Bool × Int × Int × Int × Int × Int × Int × Int × Int × Int × Int × Unit) → ((Bool) → Prop) → Prop) (xfoot_Lookup : (Int × Bool × ByteArray × Int × Bool × ByteArray × Bool × Int × Int × Int × Int × Int × Int × Int × Int × Int × Int × Unit) → (Int) → ((Int × Bool × ByteArray × Unit) → Prop) → Prop) (xepactref18_Lookup : (Int × Bool × ByteArray × Int × Bool × ByteArray × Bool × Int × Int × Int × Int × Int × Int × Int × Int × Int × Int × Unit) → (Int) → ((Int × Bool × ByteArray × Unit) → Prop) → Prop) (a0 : Int × Bool × ByteArray × Int × Bool × ByteArray × Bool × Int × Int × Int × Int × Int × Int × Int × Int × Int × Int × Unit) (a1 : ByteArray) (a2 : Int) (a3 : Int) (K : (Bool) → Prop) : Prop :=
 xepactlaw18_small (fun r4 =>
 (if decide ((↑(ByteArray.size a1) : Int) > (200 : Int)) = true then
 K r4
 else
 (if decide ((↑(ByteArray.size a0.2.2.1) : Int) > (100 : Int)) = true then
 K r4
 else
 (if decide ((↑(ByteArray.size a0.2.2.2.2.2.1) : Int) > (100 : Int)) = true then
 K r4
 else
 xfoot_Text a0 (fun r5 r6 =>
 xepactref18_Text a0 (fun r7 r8 =>
 xfoot_Parse a1 (fun r9 r10 =>
 xepactref18_Parse a1 (fun r11 r12 =>
 xfoot_Span a0 a2 (fun r13 r14 r15 =>
 xepactref18_Span a0 a2 (fun r16 r17 r18 =>
 (if (!ByteArray.toList r5 == ByteArray.toList r7) = true then
 K false
 else
 (if (!r6 == r8) = true then
 K false
 else
 (lt (!(r9.1 == r11.1 && (r9.2.1 == r11.2.1 && (ByteArray.toList r9.2.2.1 == ByteArray.toList r11.2.2.1 && true)) && (r9.2.2.2.1 == r11.2.2.2.1 && (r9.2.2.2.2.1 == r11.2.2.2.2.1 && (ByteArray.toList r9.2.2.2.2.2.1 == ByteArray.toList r11.2.2.2.2.2.1 && true)) && (r9.2.2.2.2.2.2.1 == r11.2.2.2.2.2.2.1 && (r9.2.2.2.2.2.2.2.1 == r11.2.2.2.2.2.2.2.1 && (r9.2.2.2.2.2.2.2.2.1 == r11.2.2.2.2.2.2.2.2.1 && (r9.2.2.2.2.2.2.2.2.2.1 == r11.2.2.2.2.2.2.2.2.2.1 && (r9.2.2.2.2.2.2.2.2.2.2.1 == r11.2.2.2.2.2.2.2.2.2.2.1 && (r9.2.2.2.2.2.2.2.2.2.2.2.1 == r11.2.2.2.2.2.2.2.2.2.2.2.1 && true)))) && (r9.2.2.2.2.2.2.2.2.2.2.2.2.1 == r11.2.2.2.2.2.2.2.2.2.2.2.2.1 && (r9.2.2.2.2.2.2.2.2.2.2.2.2.2.1 == r11.2.2.2.2.2.2.2.2.2.2.2.2.2.1 && (r9.2.2.2.2.2.2.2.2.2.2.2.2.2.2.1 == r11.2.2.2.2.2.2.2.2.2.2.2.2.2.2.1 && (r9.2.2.2.2.2.2.2.2.2.2.2.2.2.2.2.1 == r11.2.2.2.2.2.2.2.2.2.2.2.2.2.2.2.1 && (r9.2.2.2.2.2.2.2.2.2.2.2.2.2.2.2.2.1 == r11.2.2.2.2.2.2.2.2.2.2.2.2.2.2.2.2.1 && true)))) && true)))))) fun v19 =>
 (if v19 = true then
 K false
 else
 (if (!r10 == r12) = true then
 K false
 else
 (if (r13 != r16) = true then
 K false
 else
 (if (r14 != r17) = true then
 K false
 else
 (if (!r15 == r18) = true then
 K false
 else
 xfoot_Right a0 (fun r20 =>
 xepactref18_Right a0 (fun r21 =>
 (if (!r20 == r21) = true then
 K false
 else
 (if r4 = true then
 xepactref18_Right a0 (fun r22 =>
 (if (!r22) = true then
 K true
 else
 xfoot_Lookup a0 a3 (fun r23 =>
 xepactref18_Lookup a0 a3 (fun r24 =>
 (lt (r23.1 == r24.1 && (r23.2.1 == r24.2.1 && (ByteArray.toList r23.2.2.1 == ByteArray.toList r24.2.2.1 && true))) fun v25 =>
 K v25)))))
 else
 K false))))))))))))))))))))))
def Xepactlaw18_FootTells (a0 : Int × Bool × ByteArray × Int × Bool × ByteArray × Bool × Int × Int × Int × Int × Int × Int × Int × Int × Int × Int × Unit) (a1 : ByteArray) (a2 : Int) (a3 : Int) (K : (Bool) → Prop) : Prop := Yepactlaw18_FootTells Xepactlaw18_small Xfoot_Text Xepactref18_Text Xfoot_Parse Xepactref18_Parse Xfoot_Span Xepactref18_Span Xfoot_Right Xepactref18_Right Xfoot_Lookup Xepactref18_Lookup a0 a1 a2 a3 K
def Jepactlaw18_FootTells (X : (Int × Bool × ByteArray × Int × Bool × ByteArray × Bool × Int × Int × Int × Int × Int × Int × Int × Int × Int × Int × Unit) → (ByteArray) → (Int) → (Int) → ((Bool) → Prop) → Prop) : Inst := ⟨3, (.cons (.agg (.cons (.int .i64) (.cons .bool (.cons .str (.cons (.int .i64) (.cons .bool (.cons .str (.cons .bool (.cons (.int .i64) (.cons (.int .i64) (.cons (.int .i64) (.cons (.int .i64) (.cons (.int .i64) (.cons (.int .i64) (.cons (.int .i64) (.cons (.int .i64) (.cons (.int .i64) (.cons (.int .i64) .nil)))))))))))))))))) (.cons .str (.cons (.int .i64) (.cons (.int .i64) .nil)))), .nil, (.cons .bool .nil), .nil, fun x y K => X x.1 x.2.1 x.2.2.1 x.2.2.2.1 (fun u0 => K (u0, ()) ())⟩
def Iepactlaw18_FootTells : Inst := Jepactlaw18_FootTells Xepactlaw18_FootTells
theorem Eepactlaw18_FootTells (xepactlaw18_small : ((Bool) → Prop) → Prop) (xfoot_Text : (Int × Bool × ByteArray × Int × Bool × ByteArray × Bool × Int × Int × Int × Int × Int × Int × Int × Int × Int × Int × Unit) → ((ByteArray) → (Bool) → Prop) → Prop) (xepactref18_Text : (Int × Bool × ByteArray × Int × Bool × ByteArray × Bool × Int × Int × Int × Int × Int × Int × Int × Int × Int × Int × Unit) → ((ByteArray) → (Bool) → Prop) → Prop) (xfoot_Parse : (ByteArray) → ((Int × Bool × ByteArray × Int × Bool × ByteArray × Bool × Int × Int × Int × Int × Int × Int × Int × Int × Int × Int × Unit) → (Bool) → Prop) → Prop) (xepactref18_Parse : (ByteArray) → ((Int × Bool × ByteArray × Int × Bool × ByteArray × Bool × Int × Int × Int × Int × Int × Int × Int × Int × Int × Int × Unit) → (Bool) → Prop) → Prop) (xfoot_Span : (Int × Bool × ByteArray × Int × Bool × ByteArray × Bool × Int × Int × Int × Int × Int × Int × Int × Int × Int × Int × Unit) → (Int) → ((Int) → (Int) → (Bool) → Prop) → Prop) (xepactref18_Span : (Int × Bool × ByteArray × Int × Bool × ByteArray × Bool × Int × Int × Int × Int × Int × Int × Int × Int × Int × Int × Unit) → (Int) → ((Int) → (Int) → (Bool) → Prop) → Prop) (xfoot_Right : (Int × Bool × ByteArray × Int × Bool × ByteArray × Bool × Int × Int × Int × Int × Int × Int × Int × Int × Int × Int × Unit) → ((Bool) → Prop) → Prop) (xepactref18_Right : (Int × Bool × ByteArray × Int × Bool × ByteArray × Bool × Int × Int × Int × Int × Int × Int × Int × Int × Int × Int × Unit) → ((Bool) → Prop) → Prop) (xfoot_Lookup : (Int × Bool × ByteArray × Int × Bool × ByteArray × Bool × Int × Int × Int × Int × Int × Int × Int × Int × Int × Int × Unit) → (Int) → ((Int × Bool × ByteArray × Unit) → Prop) → Prop) (xepactref18_Lookup : (Int × Bool × ByteArray × Int × Bool × ByteArray × Bool × Int × Int × Int × Int × Int × Int × Int × Int × Int × Int × Unit) → (Int) → ((Int × Bool × ByteArray × Unit) → Prop) → Prop) (x : PL.T (.cons (.agg (.cons (.int .i64) (.cons .bool (.cons .str (.cons (.int .i64) (.cons .bool (.cons .str (.cons .bool (.cons (.int .i64) (.cons (.int .i64) (.cons (.int .i64) (.cons (.int .i64) (.cons (.int .i64) (.cons (.int .i64) (.cons (.int .i64) (.cons (.int .i64) (.cons (.int .i64) (.cons (.int .i64) .nil)))))))))))))))))) (.cons .str (.cons (.int .i64) (.cons (.int .i64) .nil))))) (y : PH.T .nil) (K : PL.T (.cons .bool .nil) → PH.T .nil → Prop) : Yepactlaw18_FootTells xepactlaw18_small xfoot_Text xepactref18_Text xfoot_Parse xepactref18_Parse xfoot_Span xepactref18_Span xfoot_Right xepactref18_Right xfoot_Lookup xepactref18_Lookup x.1 x.2.1 x.2.2.1 x.2.2.2.1 (fun u0 => K (u0, ()) ()) = bodyC (envP Tryz.prog 132 gives ⟨tabC [Jepactlaw18_small xepactlaw18_small, Jfoot_Text xfoot_Text, Jepactref18_Text xepactref18_Text, Jfoot_Parse xfoot_Parse, Jepactref18_Parse xepactref18_Parse, Jfoot_Span xfoot_Span, Jepactref18_Span xepactref18_Span, Jfoot_Right xfoot_Right, Jepactref18_Right xepactref18_Right, Jfoot_Lookup xfoot_Lookup, Jepactref18_Lookup xepactref18_Lookup], tabL []⟩) Tryz.f3 (Tryz.f3.body.getD .skip) (PL.enc (.cons (.agg (.cons (.int .i64) (.cons .bool (.cons .str (.cons (.int .i64) (.cons .bool (.cons .str (.cons .bool (.cons (.int .i64) (.cons (.int .i64) (.cons (.int .i64) (.cons (.int .i64) (.cons (.int .i64) (.cons (.int .i64) (.cons (.int .i64) (.cons (.int .i64) (.cons (.int .i64) (.cons (.int .i64) .nil)))))))))))))))))) (.cons .str (.cons (.int .i64) (.cons (.int .i64) .nil)))) x) (PH.enc .nil y) (resK (.cons .bool .nil) .nil K) := by kernel_rfl
theorem Iepactlaw18_FootTells_ok : InstOk Tryz.prog G.1 Iepactlaw18_FootTells := inst_ok (gives := gives) (is := [Iepactlaw18_small, Ifoot_Text, Iepactref18_Text, Ifoot_Parse, Iepactref18_Parse, Ifoot_Span, Iepactref18_Span, Ifoot_Right, Iepactref18_Right, Ifoot_Lookup, Iepactref18_Lookup]) [] (okCons Iepactlaw18_small_ok (okCons Ifoot_Text_ok (okCons Iepactref18_Text_ok (okCons Ifoot_Parse_ok (okCons Iepactref18_Parse_ok (okCons Ifoot_Span_ok (okCons Iepactref18_Span_ok (okCons Ifoot_Right_ok (okCons Iepactref18_Right_ok (okCons Ifoot_Lookup_ok (okCons Iepactref18_Lookup_ok okNil))))))))))) 132 follows Tryz.func3 (by kernel_rfl) (fun x => by kernel_rfl) (fun x y K => Eepactlaw18_FootTells Xepactlaw18_small Xfoot_Text Xepactref18_Text Xfoot_Parse Xepactref18_Parse Xfoot_Span Xepactref18_Span Xfoot_Right Xepactref18_Right Xfoot_Lookup Xepactref18_Lookup x y K)

end Go.Proofs.YtcopbcfekmbhlaaGreatDoor
end
section
set_option linter.unusedVariables false
set_option linter.unusedSimpArgs false

end
section
set_option linter.unusedVariables false
set_option linter.unusedSimpArgs false
set_option linter.unusedVariables false
namespace Go.Proofs.YtcopbcfekmbhlaaGreatDoor
open Go Go.Proofs.YtcopbcfekmbhlaaGreatDoor.Eng
/-- The law over plain data. -/
def PureFootTells : Prop := ∀ (a0_0 : Int) (a0_1 : Bool) (a0_2 : ByteArray) (a0_3 : Int) (a0_4 : Bool) (a0_5 : ByteArray) (a0_6 : Bool) (a0_7 : Int) (a0_8 : Int) (a0_9 : Int) (a0_10 : Int) (a0_11 : Int) (a0_12 : Int) (a0_13 : Int) (a0_14 : Int) (a0_15 : Int) (a0_16 : Int) (a1 : ByteArray) (a2 : Int) (a3 : Int) (ha0_0 : (Lit.int .i64 a0_0).wf = true) (ha0_3 : (Lit.int .i64 a0_3).wf = true) (ha0_7 : (Lit.int .i64 a0_7).wf = true) (ha0_8 : (Lit.int .i64 a0_8).wf = true) (ha0_9 : (Lit.int .i64 a0_9).wf = true) (ha0_10 : (Lit.int .i64 a0_10).wf = true) (ha0_11 : (Lit.int .i64 a0_11).wf = true) (ha0_12 : (Lit.int .i64 a0_12).wf = true) (ha0_13 : (Lit.int .i64 a0_13).wf = true) (ha0_14 : (Lit.int .i64 a0_14).wf = true) (ha0_15 : (Lit.int .i64 a0_15).wf = true) (ha0_16 : (Lit.int .i64 a0_16).wf = true) (ha1 : a1.size ≤ 140737488351232) (ha2 : (Lit.int .i64 a2).wf = true) (ha3 : (Lit.int .i64 a3).wf = true), Xepactlaw18_FootTells (a0_0, a0_1, a0_2, a0_3, a0_4, a0_5, a0_6, a0_7, a0_8, a0_9, a0_10, a0_11, a0_12, a0_13, a0_14, a0_15, a0_16, ()) a1 a2 a3 (fun b => b = true)
end Go.Proofs.YtcopbcfekmbhlaaGreatDoor
end
section
set_option linter.unusedVariables false
set_option linter.unusedSimpArgs false
namespace Go.Proofs.YtcopbcfekmbhlaaGreatDoor.Pl
open Go
set_option linter.unusedVariables false
set_option linter.unusedSimpArgs false

def digsN : Nat → Nat → List UInt8
  | 0, _ => []
  | k + 1, u => if u < 10 then [UInt8.ofNat (48 + u)] else digsN k (u / 10) ++ [UInt8.ofNat (48 + u % 10)]
theorem digsN_eq : ∀ k u, u < 10 ^ (k + 1) → digsN (k + 1) u = Lib.decDigits u
  | 0, u, h => by rw [Lib.decDigits, digsN, if_pos (by simpa using h), dif_pos (by simpa using h)]
  | k + 1, u, h => by
    rw [Lib.decDigits, digsN]
    by_cases h1 : u < 10
    · rw [if_pos h1, dif_pos h1]
    · rw [if_neg h1, dif_neg h1, digsN_eq k (u / 10) (by rw [Nat.pow_succ] at h; omega)]
def itoaK (n : Int) : List UInt8 := if n < 0 then 45 :: digsN 20 n.natAbs else digsN 20 n.toNat
theorem itoaK_eq (n : Int) (h0 : -9223372036854775808 ≤ n) (h1 : n ≤ 9223372036854775807) : itoaK n = Lib.itoa n := by
  unfold itoaK Lib.itoa
  split
  · rw [digsN_eq 19 _ (by omega)]
  · rw [digsN_eq 19 _ (by omega)]
def isDig (c : UInt8) : Bool := 48 ≤ c.toNat && c.toNat ≤ 57
theorem takeWhile_len_of {p : UInt8 → Bool} : ∀ (l : List UInt8) (k : Nat), k ≤ l.length → (∀ j (h : j < l.length), j < k → p l[j] = true) → (∀ h : k < l.length, p l[k] = false) → (l.takeWhile p).length = k
  | [], k, hk, _, _ => by simp at hk; simp [hk]
  | a :: l, 0, _, _, h => by have := h (by simp); simp at this; simp [List.takeWhile_cons, this]
  | a :: l, k + 1, hk, h1, h2 => by
    have ha : p a = true := h1 0 (by simp) (by omega)
    rw [List.takeWhile_cons, if_pos ha, List.length_cons, takeWhile_len_of l k (by simpa using hk) (fun j hj hjk => by have := h1 (j + 1) (by simpa using hj) (by omega); simpa using this) (fun hk' => by have := h2 (by simpa using hk'); simpa using this)]
theorem decode_dig (s : ByteArray) (pos : Nat) (h : pos < s.size) : ((48 ≤ (Utf8.decode s pos).1 ∧ (Utf8.decode s pos).1 ≤ 57) → isDig s[pos] = true ∧ (Utf8.decode s pos).2 = 1) ∧ (¬ (48 ≤ (Utf8.decode s pos).1 ∧ (Utf8.decode s pos).1 ≤ 57) → isDig s[pos] = false) := by
  by_cases ha : (s[pos]'h).toNat < 128
  · rw [decode_ascii s pos h ha]
    unfold isDig
    refine ⟨fun hh => ⟨by simp; omega, rfl⟩, fun hh => ?_⟩
    simp
    omega
  · have hd := (decode_high s pos h (by omega)).1
    unfold isDig
    refine ⟨fun hh => by omega, fun _ => by simp; omega⟩

/-- A text out of a list. -/
abbrev S (l : List UInt8) : ByteArray := ⟨l.toArray⟩
theorem of_S (s : ByteArray) : s = S s.data.toList := by cases s; simp [S]
theorem S_size (l : List UInt8) : (S l).size = l.length := by simp [S, ByteArray.size]
theorem S_sizeI (l : List UInt8) : ((S l).size : Int) = (l.length : Int) := by rw [S_size]
theorem S_append (a b : List UInt8) : S a ++ S b = S (a ++ b) := ByteArray.mk_append_mk a b
theorem S_toList (l : List UInt8) : (S l).toList = l := ByteArray.toList_mk l
theorem S_data (l : List UInt8) : (S l).data.toList = l := by simp [S]
theorem S_inj {a b : List UInt8} (h : S a = S b) : a = b := by have := congrArg (fun s => s.data.toList) h; simpa [S] using this
theorem S_extract (l : List UInt8) (a b : Nat) : (S l).extract a b = S ((l.drop a).take (b - a)) := by rw [Lib.extract_eq, S_data]
theorem S_drop (l : List UInt8) (a : Nat) : (S l).extract a (S l).size = S (l.drop a) := by
  rw [S_extract, S_size, List.take_of_length_le (by simp)]
theorem S_take (l : List UInt8) (b : Nat) : (S l).extract 0 b = S (l.take b) := by rw [S_extract]; simp
theorem u8_lt (c : UInt8) : c.toNat < 256 := c.toNat_lt
theorem u8_eq {a b : UInt8} (h : a.toNat = b.toNat) : a = b := UInt8.toNat_inj.1 h

/-- How many digits a list begins with. -/
def dl (l : List UInt8) : Nat := (l.takeWhile isDig).length
theorem dl_le (l : List UInt8) : dl l ≤ l.length := by unfold dl; exact (List.takeWhile_sublist _).length_le
theorem dl_cons (c : UInt8) (l : List UInt8) : dl (c :: l) = if isDig c = true then dl l + 1 else 0 := by
  unfold dl; rw [List.takeWhile_cons]; split <;> simp
theorem dl_nil : dl [] = 0 := rfl
/-- The number of a row of digits. -/
def valL (l : List UInt8) : Nat := l.foldl (fun n c => 10 * n + (c.toNat - 48)) 0
theorem decFrom_val : ∀ (l : List UInt8) (acc : Nat), (∀ c ∈ l, isDig c = true) → Lib.decFrom acc l = some (l.foldl (fun n c => 10 * n + (c.toNat - 48)) acc)
  | [], acc, _ => rfl
  | c :: l, acc, h => by
    have hc : isDig c = true := h c (by simp)
    unfold isDig at hc
    simp at hc
    unfold Lib.decFrom Lib.digitVal
    rw [if_pos hc]
    simp only []
    rw [decFrom_val l _ (fun c' hc' => h c' (by simp [hc'])), List.foldl_cons, Nat.mul_comm]
theorem atoi_val (l : List UInt8) (hne : l ≠ []) (h : ∀ c ∈ l, isDig c = true) : Lib.atoi l = some (valL l : Int) := by
  cases l with
  | nil => exact absurd rfl hne
  | cons c r =>
    have hc : isDig c = true := h c (by simp)
    unfold isDig at hc
    simp at hc
    have h1 : (c == 45) = false := by rw [beq_eq_false_iff_ne]; rintro rfl; simp at hc
    have h2 : (c == 43) = false := by rw [beq_eq_false_iff_ne]; rintro rfl; simp at hc
    simp only [Lib.atoi, Lib.decNat, h1, h2, Bool.false_eq_true, if_false, List.isEmpty_cons]
    rw [decFrom_val _ _ h]
    rfl
theorem take_dl_dig (l : List UInt8) (k : Nat) (h : k ≤ dl l) : ∀ c ∈ l.take k, isDig c = true := by
  intro c hc
  have hs : l.take k = (l.takeWhile isDig).take k := by
    conv => lhs; rw [← List.takeWhile_append_dropWhile (p := isDig) (l := l)]
    rw [List.take_append_of_le_length h]
  rw [hs] at hc
  have hall : (l.takeWhile isDig).all isDig = true := List.all_takeWhile
  exact List.all_eq_true.1 hall c (List.mem_of_mem_take hc)

end Go.Proofs.YtcopbcfekmbhlaaGreatDoor.Pl
end
section
set_option linter.unusedVariables false
set_option linter.unusedSimpArgs false
namespace Go.Proofs.YtcopbcfekmbhlaaGreatDoor.Pl
open Go
set_option linter.unusedVariables false
set_option linter.unusedSimpArgs false

/-- What stands behind a colon: minutes, or seconds. -/
def sixtyL : List UInt8 → Int × List UInt8 × Bool
  | c :: a :: b :: r => if c = 58 ∧ isDig a = true ∧ isDig b = true ∧ a.toNat ≤ 53 then (10 * (a.toNat - 48) + (b.toNat - 48), r, true) else (0, c :: a :: b :: r, false)
  | l => (0, l, false)
theorem foldl_lt : ∀ (l : List UInt8) (acc : Nat), (∀ c ∈ l, isDig c = true) → l.foldl (fun n c => 10 * n + (c.toNat - 48)) acc < (acc + 1) * 10 ^ l.length
  | [], acc, _ => by simp
  | c :: l, acc, h => by
    have hc : isDig c = true := h c (by simp)
    unfold isDig at hc
    simp at hc
    have := foldl_lt l (10 * acc + (c.toNat - 48)) (fun c' hc' => h c' (by simp [hc']))
    rw [List.foldl_cons, List.length_cons, Nat.pow_succ]
    refine Nat.lt_of_lt_of_le this ?_
    have h1 : (10 * acc + (c.toNat - 48) + 1) ≤ (acc + 1) * 10 := by omega
    calc (10 * acc + (c.toNat - 48) + 1) * 10 ^ l.length ≤ ((acc + 1) * 10) * 10 ^ l.length := Nat.mul_le_mul_right _ h1
      _ = (acc + 1) * (10 ^ l.length * 10) := by rw [Nat.mul_assoc, Nat.mul_comm 10]
theorem valL_lt (l : List UInt8) (h : ∀ c ∈ l, isDig c = true) : valL l < 10 ^ l.length := by
  have := foldl_lt l 0 h
  simpa [valL] using this
theorem sixty_bd (l : List UInt8) : 0 ≤ (sixtyL l).1 ∧ (sixtyL l).1 ≤ 59 := by
  unfold sixtyL
  split
  · split
    · rename_i h
      obtain ⟨_, ha, hb, h5⟩ := h
      unfold isDig at ha hb
      simp at ha hb
      simp only []
      omega
    · simp
  · simp
theorem sixty_len (l : List UInt8) : (sixtyL l).2.1.length ≤ l.length := by
  unfold sixtyL
  split
  · split
    · simp; omega
    · simp
  · simp

/-- A time. -/
def signL : List UInt8 → Int × List UInt8
  | [] => (1, [])
  | c :: r => if c = 45 then (-1, r) else if c = 43 then (1, r) else (1, c :: r)
def hourL (t : List UInt8) : Nat × Nat :=
  if valL (t.take (min (dl t) 3)) > 167 then (valL (t.take (min (dl t) 3)) / 10, min (dl t) 3 - 1) else (valL (t.take (min (dl t) 3)), min (dl t) 3)
def moreL (p : Int × List UInt8 × Bool) : Int × List UInt8 × Bool := if p.2.2 = true then sixtyL p.2.1 else (0, p.2.1, false)
def timeL (l : List UInt8) : Int × List UInt8 × Bool :=
  if dl (signL l).2 = 0 then (0, l, false)
  else
    ((signL l).1 * ((hourL (signL l).2).1 * 3600 + (sixtyL ((signL l).2.drop (hourL (signL l).2).2)).1 * 60 + (moreL (sixtyL ((signL l).2.drop (hourL (signL l).2).2))).1),
      (moreL (sixtyL ((signL l).2.drop (hourL (signL l).2).2))).2.1, true)
theorem hour_bd (t : List UInt8) : (hourL t).1 ≤ 167 ∧ (hourL t).2 ≤ dl t ∧ (hourL t).2 ≤ 3 ∧ (dl t ≠ 0 → 1 ≤ (hourL t).2) := by
  have hv : valL (t.take (min (dl t) 3)) < 10 ^ (t.take (min (dl t) 3)).length := valL_lt _ (take_dl_dig t _ (Nat.min_le_left _ _))
  have hl : (t.take (min (dl t) 3)).length ≤ 3 := by rw [List.length_take]; omega
  have h3 : 10 ^ (t.take (min (dl t) 3)).length ≤ 10 ^ 3 := Nat.pow_le_pow_right (by omega) hl
  have hm : min (dl t) 3 ≤ dl t := Nat.min_le_left _ _
  have hm3 : min (dl t) 3 ≤ 3 := Nat.min_le_right _ _
  unfold hourL
  split
  · rename_i hgt
    refine ⟨by simp only []; omega, by simp only []; omega, by simp only []; omega, fun h0 => ?_⟩
    simp only []
    have : ¬ (t.take (min (dl t) 3)).length ≤ 1 := fun h1 => by
      have : 10 ^ (t.take (min (dl t) 3)).length ≤ 10 ^ 1 := Nat.pow_le_pow_right (by omega) h1
      omega
    rw [List.length_take] at this
    omega
  · refine ⟨by simp only []; omega, by simp only []; omega, by simp only []; omega, fun h0 => by simp only []; omega⟩
theorem itoaK_nat (n : Nat) : itoaK (n : Int) = digsN 20 n := by
  unfold itoaK
  rw [if_neg (by omega), Int.toNat_natCast]
def pairL (m : Nat) : List UInt8 := 58 :: (digsN 20 (m / 10) ++ digsN 20 (m % 10))
theorem digsN_len : ∀ k u, (digsN k u).length ≤ k
  | 0, _ => by simp [digsN]
  | k + 1, u => by
    rw [digsN]
    split
    · simp
    · have := digsN_len k (u / 10); simp; omega
/-- The text of a time. -/
def clockB (a : Nat) : List UInt8 := digsN 20 (a / 3600) ++ (if a % 60 ≠ 0 then pairL (a / 60 % 60) ++ pairL (a % 60) else if a / 60 % 60 ≠ 0 then pairL (a / 60 % 60) else [])
def clockL (sec : Int) : List UInt8 × Bool := if -604799 ≤ sec ∧ sec ≤ 604799 then ((if sec < 0 then [45] else []) ++ clockB sec.natAbs, true) else ([], false)
theorem pairL_len (m : Nat) : (pairL m).length ≤ 41 := by
  have l1 := digsN_len 20 (m / 10)
  have l2 := digsN_len 20 (m % 10)
  simp [pairL]; omega
theorem hours_ok : ∀ h, h < 168 → ((digsN 20 h).all isDig = true ∧ valL (digsN 20 h) = h ∧ 1 ≤ (digsN 20 h).length ∧ (digsN 20 h).length ≤ 3) := by decide +kernel
theorem pairs_ok : ∀ m, m < 60 → pairL m = [58, UInt8.ofNat (48 + m / 10), UInt8.ofNat (48 + m % 10)] := by decide +kernel
theorem dl_app (a b : List UInt8) (ha : a.all isDig = true) (hb : ∀ c, b.head? = some c → isDig c = false) : dl (a ++ b) = a.length := by
  induction a with
  | nil =>
    cases b with
    | nil => rfl
    | cons c b => rw [List.nil_append, dl_cons, if_neg (by rw [hb c rfl]; simp)]; rfl
  | cons c a ih =>
    simp only [List.all_cons, Bool.and_eq_true] at ha
    rw [List.cons_append, dl_cons, if_pos ha.1, ih ha.2]; rfl
theorem sixty_pair (m : Nat) (h : m < 60) (r : List UInt8) : sixtyL (pairL m ++ r) = ((m : Int), r, true) := by
  rw [pairs_ok m h]
  show sixtyL (58 :: UInt8.ofNat (48 + m / 10) :: UInt8.ofNat (48 + m % 10) :: r) = _
  simp only [sixtyL]
  have h1 : (UInt8.ofNat (48 + m / 10)).toNat = 48 + m / 10 := by rw [UInt8.toNat_ofNat']; omega
  have h2 : (UInt8.ofNat (48 + m % 10)).toNat = 48 + m % 10 := by rw [UInt8.toNat_ofNat']; omega
  rw [if_pos ⟨trivial, by unfold isDig; rw [h1]; simp; omega, by unfold isDig; rw [h2]; simp; omega, by rw [h1]; omega⟩, h1, h2]
  simp only [Prod.mk.injEq, and_true]
  omega
theorem sixty_other (r : List UInt8) (h : r.head? ≠ some 58) : sixtyL r = (0, r, false) := by
  unfold sixtyL
  split
  · rename_i c a b r'
    rw [if_neg]
    rintro ⟨rfl, _⟩
    exact h rfl
  · rfl
/-- Behind the hours: nothing, or a colon. -/
theorem time_body (a : Nat) (h : a ≤ 604799) (tail : List UInt8) (ht : ∀ c, tail.head? = some c → isDig c = false ∧ c ≠ 58) (sg : Int) (l : List UInt8) (hl : signL l = (sg, clockB a ++ tail)) :
    timeL l = (sg * (a : Int), tail, true) := by
  obtain ⟨d1, d2, d3, d4⟩ := hours_ok (a / 3600) (by omega)
  have hcol : isDig 58 = false := by decide
  obtain ⟨rest, hrest, hhead⟩ : ∃ rest, clockB a ++ tail = digsN 20 (a / 3600) ++ rest ∧ (∀ c, rest.head? = some c → isDig c = false) ∧
      (a % 60 ≠ 0 → rest = pairL (a / 60 % 60) ++ (pairL (a % 60) ++ tail)) ∧ (a % 60 = 0 → a / 60 % 60 ≠ 0 → rest = pairL (a / 60 % 60) ++ tail) ∧ (a % 60 = 0 → a / 60 % 60 = 0 → rest = tail) := by
    unfold clockB
    by_cases hs : a % 60 = 0
    · rw [if_neg (by simpa using hs)]
      by_cases hm : a / 60 % 60 = 0
      · rw [if_neg (by simpa using hm)]
        exact ⟨tail, by simp, fun c hc => (ht c hc).1, fun h' => absurd hs h', fun _ h' => absurd hm h', fun _ _ => rfl⟩
      · rw [if_pos (by simpa using hm)]
        exact ⟨pairL (a / 60 % 60) ++ tail, by simp, fun c hc => by simp [pairL] at hc; rw [← hc]; exact hcol, fun h' => absurd hs h', fun _ _ => rfl, fun _ h' => absurd h' hm⟩
    · rw [if_pos (by simpa using hs)]
      exact ⟨pairL (a / 60 % 60) ++ (pairL (a % 60) ++ tail), by simp, fun c hc => by simp [pairL] at hc; rw [← hc]; exact hcol, fun _ => rfl, fun h' => absurd h' hs, fun h' => absurd h' hs⟩
  have hdl : dl (digsN 20 (a / 3600) ++ rest) = (digsN 20 (a / 3600)).length := dl_app _ _ d1 hhead.1
  have hmin : min (dl (digsN 20 (a / 3600) ++ rest)) 3 = (digsN 20 (a / 3600)).length := by rw [hdl]; omega
  have hhour : hourL (digsN 20 (a / 3600) ++ rest) = (a / 3600, (digsN 20 (a / 3600)).length) := by
    unfold hourL
    rw [hmin, List.take_left, d2, if_neg (by omega)]
  unfold timeL
  rw [hl, hrest]
  simp only []
  rw [hhour]
  simp only []
  rw [if_neg (by omega), List.drop_left]
  by_cases hs : a % 60 = 0
  · by_cases hm : a / 60 % 60 = 0
    · rw [hhead.2.2.2 hs hm, sixty_other _ (fun e => (ht 58 e).2 rfl)]
      simp only [moreL, Prod.mk.injEq, and_true, Bool.false_eq_true, if_false]
      congr 1
      omega
    · rw [hhead.2.2.1 hs hm, sixty_pair _ (by omega)]
      simp only [moreL, if_true]
      rw [sixty_other _ (fun e => (ht 58 e).2 rfl)]
      simp only [Prod.mk.injEq, and_true]
      congr 1
      omega
  · rw [hhead.2.1 hs, sixty_pair _ (by omega)]
    simp only [moreL, if_true]
    rw [sixty_pair _ (by omega)]
    simp only [Prod.mk.injEq, and_true]
    congr 1
    omega
theorem clockB_head (a : Nat) (h : a ≤ 604799) (tail : List UInt8) : ∃ c r, clockB a ++ tail = c :: r ∧ isDig c = true := by
  obtain ⟨d1, d2, d3, d4⟩ := hours_ok (a / 3600) (by omega)
  unfold clockB
  match hq : digsN 20 (a / 3600), d3 with
  | c :: q, _ =>
    rw [hq] at d1
    simp only [List.all_cons, Bool.and_eq_true] at d1
    exact ⟨c, _, rfl, d1.1⟩
theorem time_clock (sec : Int) (h : -604799 ≤ sec ∧ sec ≤ 604799) (tail : List UInt8) (ht : ∀ c, tail.head? = some c → isDig c = false ∧ c ≠ 58) : timeL ((clockL sec).1 ++ tail) = (sec, tail, true) := by
  unfold clockL
  rw [if_pos h]
  by_cases h0 : sec < 0
  · simp only [if_pos h0]
    rw [time_body sec.natAbs (by omega) tail ht (-1) _ (by simp [signL])]
    congr 1
    omega
  · simp only [if_neg h0, List.nil_append]
    obtain ⟨c, r, e, hc⟩ := clockB_head sec.natAbs (by omega) tail
    have hc' : c ≠ 45 ∧ c ≠ 43 := by constructor <;> (rintro rfl; exact absurd hc (by decide))
    rw [time_body sec.natAbs (by omega) tail ht 1 _ (by rw [e]; simp [signL, hc'])]
    congr 1
    omega

/-! ### What is behind a time is an end of the text -/
theorem sixty_drop (l : List UInt8) : ∃ j, j ≤ l.length ∧ (sixtyL l).2.1 = l.drop j := by
  unfold sixtyL
  split
  · split
    · exact ⟨3, by simp, rfl⟩
    · exact ⟨0, by simp, rfl⟩
  · exact ⟨0, by simp, rfl⟩
theorem sign_drop (l : List UInt8) : ∃ j, j ≤ l.length ∧ (signL l).2 = l.drop j ∧ ((signL l).1 = 1 ∨ (signL l).1 = -1) := by
  unfold signL
  split
  · exact ⟨0, by simp, rfl, .inl rfl⟩
  · split
    · exact ⟨1, by simp, rfl, .inr rfl⟩
    · split
      · exact ⟨1, by simp, rfl, .inl rfl⟩
      · exact ⟨0, by simp, rfl, .inl rfl⟩
theorem time_drop (l : List UInt8) : ∃ j, j ≤ l.length ∧ (timeL l).2.1 = l.drop j ∧ ((timeL l).2.2 = true ↔ 0 < j) ∧ -604799 ≤ (timeL l).1 ∧ (timeL l).1 ≤ 604799 ∧ ((timeL l).2.2 = false → (timeL l).1 = 0 ∧ j = 0) := by
  obtain ⟨j0, h0, e0, hs⟩ := sign_drop l
  unfold timeL
  by_cases hd : dl (signL l).2 = 0
  · rw [if_pos hd]
    exact ⟨0, by omega, by simp, by simp, by simp, by simp, by simp⟩
  · rw [if_neg hd]
    obtain ⟨b1, b2, b3, b4⟩ := hour_bd (signL l).2
    have b4' := b4 hd
    have hdl := dl_le (signL l).2
    obtain ⟨j1, h1, e1⟩ := sixty_drop ((signL l).2.drop (hourL (signL l).2).2)
    have s1 := sixty_bd ((signL l).2.drop (hourL (signL l).2).2)
    have key : ∃ j2, j2 ≤ (sixtyL ((signL l).2.drop (hourL (signL l).2).2)).2.1.length ∧ (moreL (sixtyL ((signL l).2.drop (hourL (signL l).2).2))).2.1 = (sixtyL ((signL l).2.drop (hourL (signL l).2).2)).2.1.drop j2 ∧
        0 ≤ (moreL (sixtyL ((signL l).2.drop (hourL (signL l).2).2))).1 ∧ (moreL (sixtyL ((signL l).2.drop (hourL (signL l).2).2))).1 ≤ 59 := by
      unfold moreL
      split
      · obtain ⟨j2, h2, e2⟩ := sixty_drop (sixtyL ((signL l).2.drop (hourL (signL l).2).2)).2.1
        exact ⟨j2, h2, e2, sixty_bd _⟩
      · exact ⟨0, by omega, rfl, by simp, by simp⟩
    obtain ⟨j2, h2, e2, hb1, hb2⟩ := key
    rw [e2, e1, e0, List.drop_drop, List.drop_drop, List.drop_drop]
    rw [e1] at h2
    rw [e0] at h1 h2 hdl b2
    simp only [List.length_drop] at h1 h2 hdl
    rw [e0] at b4' b3 s1 hb1 hb2
    refine ⟨_, ?_, rfl, ?_, ?_⟩
    · omega
    · simp; omega
    · generalize (sixtyL (List.drop (hourL (List.drop j0 l)).2 (List.drop j0 l))).1 = x at *
      generalize (moreL (sixtyL (List.drop (hourL (List.drop j0 l)).2 (List.drop j0 l)))).1 = y at *
      rw [e0] at b1
      generalize (hourL (List.drop j0 l)).1 = v at *
      rcases hs with hs | hs <;> rw [hs] <;> refine ⟨?_, ?_, by simp⟩ <;> omega

end Go.Proofs.YtcopbcfekmbhlaaGreatDoor.Pl
end
section
set_option linter.unusedVariables false
set_option linter.unusedSimpArgs false
namespace Go.Proofs.YtcopbcfekmbhlaaGreatDoor.Pl
open Go
set_option linter.unusedVariables false
set_option linter.unusedSimpArgs false

/-- A leap year. -/
def leapY (y : Int) : Bool := decide (y % 4 = 0 ∧ (y % 100 ≠ 0 ∨ y % 400 = 0))
/-- The number of a year's first day. -/
def fst (y : Int) : Int := 365 * (y - 1) + (y - 1) / 4 - (y - 1) / 100 + (y - 1) / 400 - 719162
/-- How many days of a common year lie ahead of a month. -/
def cum0 (m : Int) : Int := if m = 1 then 0 else if m = 2 then 31 else if m = 3 then 59 else if m = 4 then 90 else if m = 5 then 120 else if m = 6 then 151 else if m = 7 then 181 else if m = 8 then 212 else if m = 9 then 243 else if m = 10 then 273 else if m = 11 then 304 else if m = 12 then 334 else 365
def cum (y m : Int) : Int := cum0 m + if 2 < m ∧ leapY y = true then 1 else 0
def dim (y m : Int) : Int := if m = 2 then (if leapY y = true then 29 else 28) else if m = 4 then 30 else if m = 6 then 30 else if m = 9 then 30 else if m = 11 then 30 else 31
/-- The number of a date. -/
def num (y m d : Int) : Int := fst y + cum y m + d - 1
/-- A date. -/
def Vld (y m d : Int) : Prop := 1 ≤ y ∧ y ≤ 9999 ∧ 1 ≤ m ∧ m ≤ 12 ∧ 1 ≤ d ∧ d ≤ dim y m

theorem leapY_iff (y : Int) : leapY y = true ↔ (y % 4 = 0 ∧ (y % 100 ≠ 0 ∨ y % 400 = 0)) := by unfold leapY; exact decide_eq_true_iff
theorem month_cases {m : Int} (h1 : 1 ≤ m) (h2 : m ≤ 12) : m = 1 ∨ m = 2 ∨ m = 3 ∨ m = 4 ∨ m = 5 ∨ m = 6 ∨ m = 7 ∨ m = 8 ∨ m = 9 ∨ m = 10 ∨ m = 11 ∨ m = 12 := by omega
theorem dim_bd (y m : Int) : 28 ≤ dim y m ∧ dim y m ≤ 31 := by unfold dim; repeat' split <;> omega
theorem fst_succ (y : Int) : fst (y + 1) = fst y + 365 + if leapY y = true then 1 else 0 := by
  have := leapY_iff y
  unfold fst
  by_cases h : leapY y = true
  · rw [if_pos h]; have := this.1 h; omega
  · rw [if_neg h]
    have h' : ¬ (y % 4 = 0 ∧ (y % 100 ≠ 0 ∨ y % 400 = 0)) := fun z => h (this.2 z)
    omega
theorem cum_succ (y m : Int) (h1 : 1 ≤ m) (h2 : m ≤ 12) : cum y m + dim y m = if m = 12 then 365 + (if leapY y = true then 1 else 0) else cum y (m + 1) := by
  rcases month_cases h1 h2 with rfl | rfl | rfl | rfl | rfl | rfl | rfl | rfl | rfl | rfl | rfl | rfl <;>
    cases hl : leapY y <;> simp [cum, cum0, dim, hl]
theorem num_bd {y m d : Int} (h : Vld y m d) : fst y ≤ num y m d ∧ num y m d < fst (y + 1) := by
  obtain ⟨_, _, h1, h2, h3, h4⟩ := h
  rw [fst_succ]
  unfold num
  rcases month_cases h1 h2 with rfl | rfl | rfl | rfl | rfl | rfl | rfl | rfl | rfl | rfl | rfl | rfl <;>
    cases hl : leapY y <;> simp [cum, cum0, dim, hl] at h4 ⊢ <;> omega
theorem fst_bd {y : Int} (h1 : 1 ≤ y) (h2 : y ≤ 9999) : -719162 ≤ fst y ∧ fst (y + 1) ≤ 2932897 := by unfold fst; omega
theorem fst_le {y z : Int} (h : y ≤ z) : fst y ≤ fst z := by unfold fst; omega
theorem num_range {y m d : Int} (h : Vld y m d) : -719162 ≤ num y m d ∧ num y m d ≤ 2932896 := by
  have := num_bd h
  have := fst_bd h.1 h.2.1
  omega

/-! ### Years that begin with March -/
/-- A date's year and month, so counted. -/
def sy (y m : Int) : Int := if m < 3 then y - 1 else y
def sm (m : Int) : Int := if m < 3 then m + 12 else m
/-- The program's own formula. -/
def numP (y m d : Int) : Int := 146097 * (sy y m / 400) + 365 * (sy y m % 400) + (sy y m % 400) / 4 - (sy y m % 400) / 100 + ((153 * (sm m - 3) + 2) / 5 + d - 1) - 719468
theorem numP_eq {y m d : Int} (h1 : 1 ≤ m) (h2 : m ≤ 12) : numP y m d = num y m d := by
  have hl := leapY_iff y
  have key : ∀ b : Bool, leapY y = b → numP y m d = num y m d := by
    intro b hb
    cases b with
    | true =>
      have hl' := hl.1 hb
      rcases month_cases h1 h2 with rfl | rfl | rfl | rfl | rfl | rfl | rfl | rfl | rfl | rfl | rfl | rfl <;>
        simp [numP, num, fst, cum, cum0, sy, sm, hb] <;> omega
    | false =>
      have hl' : ¬ (y % 4 = 0 ∧ (y % 100 ≠ 0 ∨ y % 400 = 0)) := fun z => by rw [hl.2 z] at hb; cases hb
      rcases month_cases h1 h2 with rfl | rfl | rfl | rfl | rfl | rfl | rfl | rfl | rfl | rfl | rfl | rfl <;>
        simp [numP, num, fst, cum, cum0, sy, sm, hb] <;> omega
  exact key _ rfl

/-- The first day of March-year b of an era. -/
def st (b : Int) : Int := 365 * b + b / 4 - b / 100
def gy (o : Int) : Int := o - o / 1460 + o / 36524 - o / 146096
theorem gy_mono {a b : Int} (h0 : 0 ≤ a) (h : a ≤ b) (hb : b ≤ 146096) : gy a ≤ gy b := by unfold gy; omega
theorem ends : ∀ n : Nat, n < 400 → (gy (st n) / 365 = n ∧ gy (st (n + 1) - (if n = 399 then 0 else 1)) / 365 = n) := by decide +kernel
theorem st_400 : st 399 + 365 = 146096 := by decide
/-- The year of a day of an era. -/
theorem year_of {o b : Int} (h0 : 0 ≤ b) (h1 : b < 400) (h2 : st b ≤ o) (h3 : o < st (b + 1) ∨ (b = 399 ∧ o ≤ 146096)) : gy o / 365 = b := by
  obtain ⟨n, rfl⟩ := Int.eq_ofNat_of_zero_le h0
  obtain ⟨e1, e2⟩ := ends n (by omega)
  have hs0 : 0 ≤ st n := by unfold st; omega
  have hs1 : st (n + 1) ≤ 146097 := by unfold st; omega
  by_cases hn : n = 399
  · subst hn
    have hm : st ((399 : Nat) + 1) = 146096 := by decide
    rw [if_pos rfl, hm] at e2
    have ho : o ≤ 146096 := by
      rcases h3 with h3 | h3
      · have : ((399 : Nat) : Int) + 1 = 400 := rfl
        rw [this] at h3; have : st 400 = 146096 := by decide
        omega
      · exact h3.2
    have g1 := gy_mono hs0 h2 ho
    have g2 := gy_mono (by omega : 0 ≤ o) ho (Int.le_refl _)
    simp only [Int.sub_zero] at e2
    omega
  · rw [if_neg hn] at e2
    have ho : o ≤ st (n + 1) - 1 := by
      rcases h3 with h3 | h3
      · omega
      · omega
    have g1 := gy_mono hs0 h2 (by omega)
    have g2 := gy_mono (by omega : 0 ≤ o) ho (by omega)
    omega

/-- The program's own date of a number. -/
def era (n : Int) : Int := (n + 719468) / 146097
def ofE (n : Int) : Int := (n + 719468) % 146097
def yrs (n : Int) : Int := gy (ofE n) / 365
def doy (n : Int) : Int := ofE n - st (yrs n)
def mon (n : Int) : Int := (5 * doy n + 2) / 153
def dayP (n : Int) : Int := doy n - (153 * mon n + 2) / 5 + 1
def monP (n : Int) : Int := if mon n + 3 > 12 then mon n + 3 - 12 else mon n + 3
def yearP (n : Int) : Int := 400 * era n + (if mon n + 3 > 12 then yrs n + 1 else yrs n)

theorem date_num' {y m d : Int} (h : Vld y m d) : (0 ≤ doy (num y m d) ∧ doy (num y m d) ≤ 365) ∧ yearP (num y m d) = y ∧ monP (num y m d) = m ∧ dayP (num y m d) = d := by
  obtain ⟨a1, a2, h1, h2, h3, h4⟩ := h
  have hl := leapY_iff y
  rw [← numP_eq h1 h2]
  have hb : 0 ≤ sy y m % 400 ∧ sy y m % 400 < 400 := by omega
  have hdoy : 0 ≤ (153 * (sm m - 3) + 2) / 5 + d - 1 ∧ st (sy y m % 400) + ((153 * (sm m - 3) + 2) / 5 + d - 1) ≤ 146096 ∧
      (st (sy y m % 400) + ((153 * (sm m - 3) + 2) / 5 + d - 1) < st (sy y m % 400 + 1) ∨ sy y m % 400 = 399) := by
    unfold st
    cases hb' : leapY y with
    | true =>
      have hl' := hl.1 hb'
      rcases month_cases h1 h2 with rfl | rfl | rfl | rfl | rfl | rfl | rfl | rfl | rfl | rfl | rfl | rfl <;>
        simp [sy, sm, dim, hb'] at h4 ⊢ <;> omega
    | false =>
      have hl' : ¬ (y % 4 = 0 ∧ (y % 100 ≠ 0 ∨ y % 400 = 0)) := fun z => by rw [hl.2 z] at hb'; cases hb'
      rcases month_cases h1 h2 with rfl | rfl | rfl | rfl | rfl | rfl | rfl | rfl | rfl | rfl | rfl | rfl <;>
        simp [sy, sm, dim, hb'] at h4 ⊢ <;> omega
  have hst0 : 0 ≤ st (sy y m % 400) := by unfold st; omega
  have hN : numP y m d + 719468 = 146097 * (sy y m / 400) + (st (sy y m % 400) + ((153 * (sm m - 3) + 2) / 5 + d - 1)) := by unfold numP st; omega
  have hera : era (numP y m d) = sy y m / 400 := by unfold era; omega
  have hof : ofE (numP y m d) = st (sy y m % 400) + ((153 * (sm m - 3) + 2) / 5 + d - 1) := by unfold ofE; omega
  have hyrs : yrs (numP y m d) = sy y m % 400 := by
    unfold yrs
    rw [hof]
    refine year_of hb.1 hb.2 (by omega) ?_
    rcases hdoy.2.2 with h | h
    · exact .inl h
    · exact .inr ⟨h, hdoy.2.1⟩
  have hdy : doy (numP y m d) = (153 * (sm m - 3) + 2) / 5 + d - 1 := by unfold doy; rw [hof, hyrs]; omega
  have hdd := dim_bd y m
  have hmon : mon (numP y m d) = sm m - 3 := by
    unfold mon
    rw [hdy]
    rcases month_cases h1 h2 with rfl | rfl | rfl | rfl | rfl | rfl | rfl | rfl | rfl | rfl | rfl | rfl <;>
      simp [sm, dim] at h4 ⊢ <;> omega
  refine ⟨?_, ?_, ?_, ?_⟩
  · rw [hdy]
    rcases month_cases h1 h2 with rfl | rfl | rfl | rfl | rfl | rfl | rfl | rfl | rfl | rfl | rfl | rfl <;>
      simp [sm, dim] at h4 ⊢ <;> omega
  · unfold yearP
    rw [hera, hyrs, hmon]
    rcases month_cases h1 h2 with rfl | rfl | rfl | rfl | rfl | rfl | rfl | rfl | rfl | rfl | rfl | rfl <;>
      simp [sm, sy] <;> omega
  · unfold monP
    rw [hmon]
    rcases month_cases h1 h2 with rfl | rfl | rfl | rfl | rfl | rfl | rfl | rfl | rfl | rfl | rfl | rfl <;> simp [sm]
  · unfold dayP
    rw [hdy, hmon]
    omega
theorem date_num {y m d : Int} (h : Vld y m d) : yearP (num y m d) = y ∧ monP (num y m d) = m ∧ dayP (num y m d) = d := (date_num' h).2

/-! ### Each number is a date's -/
theorem year_ex (n : Int) (h0 : fst 1 ≤ n) : ∀ k : Nat, n < fst (1 + k) → ∃ y : Int, 1 ≤ y ∧ y ≤ k ∧ fst y ≤ n ∧ n < fst (y + 1)
  | 0, h => by simp at h; omega
  | k + 1, h => by
    by_cases h1 : n < fst (1 + k)
    · obtain ⟨y, a, b, c, d⟩ := year_ex n h0 k h1
      exact ⟨y, a, by omega, c, d⟩
    · exact ⟨1 + k, by omega, by omega, by omega, by have e : ((k + 1 : Nat) : Int) = (k : Int) + 1 := rfl; rw [e] at h; rw [Int.add_assoc]; exact h⟩
theorem cum_mono (y m : Int) (h1 : 1 ≤ m) (h2 : m < 12) : cum y m + 28 ≤ cum y (m + 1) := by
  have := cum_succ y m h1 (by omega)
  rw [if_neg (by omega)] at this
  have := dim_bd y m
  omega
theorem month_ex (y r : Int) (h0 : 0 ≤ r) : ∀ k : Nat, k < 12 → r < cum y (1 + k) → ∃ m : Int, 1 ≤ m ∧ m ≤ k ∧ cum y m ≤ r ∧ r < cum y (m + 1)
  | 0, _, h => by simp [cum, cum0] at h; omega
  | k + 1, hk, h => by
    by_cases h1 : r < cum y (1 + k)
    · obtain ⟨m, a, b, c, d⟩ := month_ex y r h0 k (by omega) h1
      exact ⟨m, a, by omega, c, d⟩
    · exact ⟨1 + k, by omega, by omega, by omega, by have e : ((k + 1 : Nat) : Int) = (k : Int) + 1 := rfl; rw [e] at h; rw [Int.add_assoc]; exact h⟩
theorem date_ex {n : Int} (h0 : -719162 ≤ n) (h1 : n ≤ 2932896) : ∃ y m d, Vld y m d ∧ num y m d = n := by
  obtain ⟨y, a, b, c, e⟩ := year_ex n (by have : fst 1 = -719162 := by decide
                                          omega) 9999 (by have : fst (1 + (9999 : Nat)) = 2932897 := by decide
                                                          omega)
  rw [fst_succ] at e
  by_cases h : n - fst y < cum y 12
  · obtain ⟨m, a', b', c', e'⟩ := month_ex y (n - fst y) (by omega) 11 (by omega) h
    have hs := cum_succ y m a' (by omega)
    rw [if_neg (by omega)] at hs
    exact ⟨y, m, n - fst y - cum y m + 1, ⟨a, by omega, a', by omega, by omega, by omega⟩, by unfold num; omega⟩
  · have hs := cum_succ y 12 (by omega) (by omega)
    rw [if_pos rfl] at hs
    exact ⟨y, 12, n - fst y - cum y 12 + 1, ⟨a, by omega, by omega, by omega, by omega, by omega⟩, by unfold num; omega⟩
theorem num_date {n : Int} (h0 : -719162 ≤ n) (h1 : n ≤ 2932896) : Vld (yearP n) (monP n) (dayP n) ∧ num (yearP n) (monP n) (dayP n) = n := by
  obtain ⟨y, m, d, hv, rfl⟩ := date_ex h0 h1
  obtain ⟨e1, e2, e3⟩ := date_num hv
  rw [e1, e2, e3]
  exact ⟨hv, rfl⟩
theorem doy_bd {n : Int} (h0 : -719162 ≤ n) (h1 : n ≤ 2932896) : 0 ≤ doy n ∧ doy n ≤ 365 := by
  obtain ⟨y, m, d, hv, rfl⟩ := date_ex h0 h1
  exact (date_num' hv).1
theorem num_inj {y m d y' m' d' : Int} (h : Vld y m d) (h' : Vld y' m' d') (e : num y m d = num y' m' d') : y = y' ∧ m = m' ∧ d = d' := by
  have a := date_num h
  have b := date_num h'
  rw [e] at a
  exact ⟨a.1.symm.trans b.1, a.2.1.symm.trans b.2.1, a.2.2.symm.trans b.2.2⟩
/-- A day's place in the week, from Sunday on. -/
def wk (n : Int) : Int := (n + 4) % 7

end Go.Proofs.YtcopbcfekmbhlaaGreatDoor.Pl
end
section
set_option linter.unusedVariables false
set_option linter.unusedSimpArgs false
namespace Go.Proofs.YtcopbcfekmbhlaaGreatDoor.Pl
open Go
set_option linter.unusedVariables false
set_option linter.unusedSimpArgs false

def rightR (K A B C X : Int) : Bool :=
  decide ((-604799 ≤ X ∧ X ≤ 604799) ∧ ((K = 0 ∧ 1 ≤ A ∧ A ≤ 12 ∧ 1 ≤ B ∧ B ≤ 5 ∧ 0 ≤ C ∧ C ≤ 6) ∨ (K = 1 ∧ 1 ≤ A ∧ A ≤ 365 ∧ B = 0 ∧ C = 0) ∨ (K = 2 ∧ 0 ≤ A ∧ A ≤ 365 ∧ B = 0 ∧ C = 0)))
theorem right_iff (K A B C X : Int) : rightR K A B C X = true ↔ ((-604799 ≤ X ∧ X ≤ 604799) ∧ ((K = 0 ∧ 1 ≤ A ∧ A ≤ 12 ∧ 1 ≤ B ∧ B ≤ 5 ∧ 0 ≤ C ∧ C ≤ 6) ∨ (K = 1 ∧ 1 ≤ A ∧ A ≤ 365 ∧ B = 0 ∧ C = 0) ∨ (K = 2 ∧ 0 ≤ A ∧ A ≤ 365 ∧ B = 0 ∧ C = 0))) := by
  unfold rightR; exact decide_eq_true_iff
/-- The place of a rule's day in its month, from 0 on. -/
def offW (A B C y : Int) : Int := let k := (C - wk (num y A 1) + 7) % 7 + 7 * (B - 1); if k ≥ dim y A then k - 7 else k
def ruleDay (K A B C y : Int) : Int := if K = 2 then fst y + A else if K = 1 then (if A ≤ 59 ∨ leapY y = false then fst y - 1 + A else fst y + A) else num y A 1 + offW A B C y
theorem num_first (y : Int) : num y 1 1 = fst y := by unfold num cum cum0; simp
theorem dim_jan (y : Int) : dim y 1 = 31 := rfl
theorem off_bd {A B C y : Int} (h1 : 1 ≤ B) (h2 : B ≤ 5) : 0 ≤ offW A B C y ∧ offW A B C y < dim y A ∧ offW A B C y % 7 = (C - wk (num y A 1) + 7) % 7 := by
  have hd := dim_bd y A
  have hw : 0 ≤ wk (num y A 1) ∧ wk (num y A 1) < 7 := by unfold wk; omega
  unfold offW
  simp only []
  split <;> omega
theorem ruleDay_bd {K A B C X y : Int} (hy : 1 ≤ y ∧ y ≤ 9999) (hr : rightR K A B C X = true) : fst y ≤ ruleDay K A B C y ∧ ruleDay K A B C y ≤ fst y + 365 := by
  have hr' := (right_iff K A B C X).1 hr
  unfold ruleDay
  split
  · omega
  · split
    · split <;> omega
    · have hK : K = 0 ∧ 1 ≤ A ∧ A ≤ 12 ∧ 1 ≤ B ∧ B ≤ 5 ∧ 0 ≤ C ∧ C ≤ 6 := by omega
      obtain ⟨o1, o2, _⟩ := off_bd (A := A) (C := C) (y := y) hK.2.2.2.1 hK.2.2.2.2.1
      have hv : Vld y A (offW A B C y + 1) := ⟨hy.1, hy.2, hK.2.1, hK.2.2.1, by omega, by omega⟩
      have := num_bd hv
      rw [fst_succ] at this
      have e : num y A (offW A B C y + 1) = num y A 1 + offW A B C y := by unfold num; omega
      rw [e] at this
      split at this <;> omega
def cutP (c : UInt8) (l : List UInt8) : List UInt8 × Bool := if l.head? = some c then (l.tail, true) else (l, false)
theorem cut_drop (c : UInt8) (l : List UInt8) : ∃ j, j ≤ l.length ∧ (cutP c l).1 = l.drop j := by
  unfold cutP
  split
  · cases l with
    | nil => rename_i h; simp at h
    | cons a r => exact ⟨1, by simp, rfl⟩
  · exact ⟨0, by omega, rfl⟩

/-- A number of so many digits at most. -/
def numberL (l : List UInt8) (m : Nat) : Int × List UInt8 × Bool := if dl l = 0 ∨ m < dl l then (0, l, false) else ((valL (l.take (dl l)) : Int), l.drop (dl l), true)
theorem numberL_drop (l : List UInt8) (m : Nat) : ∃ j, j ≤ l.length ∧ (numberL l m).2.1 = l.drop j ∧ ((numberL l m).2.2 = true → 0 < j) := by
  unfold numberL
  split
  · exact ⟨0, by omega, rfl, by simp⟩
  · exact ⟨dl l, dl_le l, rfl, fun _ => by omega⟩
theorem numberL_len (l : List UInt8) (m : Nat) : (numberL l m).2.1.length ≤ l.length := by
  obtain ⟨j, _, e, _⟩ := numberL_drop l m
  rw [e, List.length_drop]; omega
theorem cutL_len (c : UInt8) (l : List UInt8) : (cutP c l).1.length ≤ l.length := by
  obtain ⟨j, _, e⟩ := cut_drop c l
  rw [e, List.length_drop]; omega
theorem numberL_bd (l : List UInt8) (m : Nat) : 0 ≤ (numberL l m).1 ∧ ((numberL l m).1 : Int) < ((10 ^ m : Nat) : Int) := by
  unfold numberL
  have h1 : 0 < 10 ^ m := Nat.pos_of_ne_zero (by simp)
  split
  · simp only []; omega
  · rename_i h
    have hv := valL_lt _ (take_dl_dig l _ (Nat.le_refl _))
    have h2 : 10 ^ (l.take (dl l)).length ≤ 10 ^ m := Nat.pow_le_pow_right (by omega) (by rw [List.length_take]; omega)
    simp only []; omega

def weekL (l : List UInt8) : Int × Int × Int × List UInt8 × Bool :=
  ((numberL l 2).1, (numberL (cutP 46 (numberL l 2).2.1).1 1).1, (numberL (cutP 46 (numberL (cutP 46 (numberL l 2).2.1).1 1).2.1).1 1).1,
    (numberL (cutP 46 (numberL (cutP 46 (numberL l 2).2.1).1 1).2.1).1 1).2.1,
    (numberL l 2).2.2 && (numberL (cutP 46 (numberL l 2).2.1).1 1).2.2 && (numberL (cutP 46 (numberL (cutP 46 (numberL l 2).2.1).1 1).2.1).1 1).2.2 && (cutP 46 (numberL l 2).2.1).2 && (cutP 46 (numberL (cutP 46 (numberL l 2).2.1).1 1).2.1).2)
theorem weekL_drop (l : List UInt8) : ∃ j, j ≤ l.length ∧ (weekL l).2.2.2.1 = l.drop j ∧ ((weekL l).2.2.2.2 = true → 0 < j) := by
  unfold weekL
  obtain ⟨j1, h1, e1, p1⟩ := numberL_drop l 2
  obtain ⟨j2, h2, e2⟩ := cut_drop 46 (numberL l 2).2.1
  obtain ⟨j3, h3, e3, _⟩ := numberL_drop (cutP 46 (numberL l 2).2.1).1 1
  obtain ⟨j4, h4, e4⟩ := cut_drop 46 (numberL (cutP 46 (numberL l 2).2.1).1 1).2.1
  obtain ⟨j5, h5, e5, _⟩ := numberL_drop (cutP 46 (numberL (cutP 46 (numberL l 2).2.1).1 1).2.1).1 1
  refine ⟨j1 + j2 + j3 + j4 + j5, ?_, ?_, ?_⟩
  · rw [e4, List.length_drop, e3, List.length_drop, e2, List.length_drop, e1, List.length_drop] at h5
    rw [e3, List.length_drop, e2, List.length_drop, e1, List.length_drop] at h4
    rw [e2, List.length_drop, e1, List.length_drop] at h3
    rw [e1, List.length_drop] at h2
    omega
  · simp only []
    rw [e5, e4, e3, e2, e1]
    simp only [List.drop_drop]
  · intro h
    simp only [Bool.and_eq_true] at h
    have := p1 h.1.1.1.1
    omega

/-- A rule without its time. -/
def dateL (l : List UInt8) : Int × Int × Int × Int × List UInt8 × Bool :=
  if l.head? = some 77 then (0, weekL l.tail) else if l.head? = some 74 then (1, (numberL l.tail 3).1, 0, 0, (numberL l.tail 3).2) else (2, (numberL l 3).1, 0, 0, (numberL l 3).2)
theorem dateL_drop (l : List UInt8) : ∃ j, j ≤ l.length ∧ (dateL l).2.2.2.2.1 = l.drop j ∧ ((dateL l).2.2.2.2.2 = true → 0 < j) := by
  unfold dateL
  by_cases h : l.head? = some 77
  · rw [if_pos h]
    obtain ⟨a, r, rfl⟩ : ∃ a r, l = a :: r := by cases l with | nil => simp at h | cons a r => exact ⟨a, r, rfl⟩
    obtain ⟨j, hj, e, _⟩ := weekL_drop r
    exact ⟨j + 1, by simp; omega, e, fun _ => by omega⟩
  · rw [if_neg h]
    by_cases h' : l.head? = some 74
    · rw [if_pos h']
      obtain ⟨a, r, rfl⟩ : ∃ a r, l = a :: r := by cases l with | nil => simp at h' | cons a r => exact ⟨a, r, rfl⟩
      obtain ⟨j, hj, e, _⟩ := numberL_drop r 3
      exact ⟨j + 1, by simp; omega, e, fun _ => by omega⟩
    · rw [if_neg h']
      exact numberL_drop l 3

/-- A rule. -/
def parseL (l : List UInt8) : Int × Int × Int × Int × Int × List UInt8 × Bool :=
  if (dateL l).2.2.2.2.2 = true then
    (if (dateL l).2.2.2.2.1.head? = some 47 then
      (if (timeL (dateL l).2.2.2.2.1.tail).2.2 = true ∧ rightR (dateL l).1 (dateL l).2.1 (dateL l).2.2.1 (dateL l).2.2.2.1 (timeL (dateL l).2.2.2.2.1.tail).1 = true then
        ((dateL l).1, (dateL l).2.1, (dateL l).2.2.1, (dateL l).2.2.2.1, (timeL (dateL l).2.2.2.2.1.tail).1, (timeL (dateL l).2.2.2.2.1.tail).2.1, true) else (0, 0, 0, 0, 0, l, false))
    else if rightR (dateL l).1 (dateL l).2.1 (dateL l).2.2.1 (dateL l).2.2.2.1 7200 = true then
      ((dateL l).1, (dateL l).2.1, (dateL l).2.2.1, (dateL l).2.2.2.1, 7200, (dateL l).2.2.2.2.1, true) else (0, 0, 0, 0, 0, l, false))
  else (0, 0, 0, 0, 0, l, false)
theorem parse_good (l : List UInt8) (h : (parseL l).2.2.2.2.2.2 = true) :
    rightR (parseL l).1 (parseL l).2.1 (parseL l).2.2.1 (parseL l).2.2.2.1 (parseL l).2.2.2.2.1 = true ∧ ∃ j, 0 < j ∧ j ≤ l.length ∧ (parseL l).2.2.2.2.2.1 = l.drop j := by
  obtain ⟨j, hj, e, hp⟩ := dateL_drop l
  revert h
  unfold parseL
  by_cases hok : (dateL l).2.2.2.2.2 = true
  · have hp := hp hok
    rw [if_pos hok]
    by_cases hc : (dateL l).2.2.2.2.1.head? = some 47
    · rw [if_pos hc]
      by_cases hR : (timeL (dateL l).2.2.2.2.1.tail).2.2 = true ∧ rightR (dateL l).1 (dateL l).2.1 (dateL l).2.2.1 (dateL l).2.2.2.1 (timeL (dateL l).2.2.2.2.1.tail).1 = true
      · rw [if_pos hR]
        intro _
        obtain ⟨i, hi, ei, _⟩ := time_drop (dateL l).2.2.2.2.1.tail
        refine ⟨hR.2, j + 1 + i, by omega, ?_, ?_⟩
        · rw [List.length_tail, e, List.length_drop] at hi
          have : (dateL l).2.2.2.2.1.length ≠ 0 := by intro h0; rw [List.eq_nil_of_length_eq_zero h0] at hc; simp at hc
          rw [e, List.length_drop] at this
          omega
        · simp only []
          rw [ei, e, ← List.drop_one, List.drop_drop, List.drop_drop]
          congr 1; omega
      · rw [if_neg hR]; intro h; simp at h
    · rw [if_neg hc]
      by_cases hR : rightR (dateL l).1 (dateL l).2.1 (dateL l).2.2.1 (dateL l).2.2.2.1 7200 = true
      · rw [if_pos hR]
        intro _
        exact ⟨hR, j, hp, hj, e⟩
      · rw [if_neg hR]; intro h; simp at h
  · rw [if_neg hok]; intro h; simp at h
theorem parse_bad (l : List UInt8) (h : (parseL l).2.2.2.2.2.2 = false) : parseL l = (0, 0, 0, 0, 0, l, false) := by
  revert h
  unfold parseL
  split
  · split
    · split
      · intro h; simp at h
      · intro _; rfl
    · split
      · intro h; simp at h
      · intro _; rfl
  · intro _; rfl

/-- A rule's text. -/
def headL (K A B C : Int) : List UInt8 := if K = 0 then 77 :: (itoaK A ++ 46 :: (itoaK B ++ 46 :: itoaK C)) else if K = 1 then 74 :: itoaK A else itoaK A
def tailL (X : Int) : List UInt8 := if X = 7200 then [] else 47 :: (clockL X).1
def textL (K A B C X : Int) : List UInt8 × Bool := if rightR K A B C X = true then (headL K A B C ++ tailL X, true) else ([], false)
theorem clockL_len (X : Int) : (clockL X).1.length ≤ 200 := by
  unfold clockL
  split
  · have l1 := digsN_len 20 (X.natAbs / 3600)
    have l2 := pairL_len (X.natAbs / 60 % 60)
    have l3 := pairL_len (X.natAbs % 60)
    have : (clockB X.natAbs).length ≤ 102 := by
      unfold clockB
      rw [List.length_append]
      split
      · rw [List.length_append]; omega
      · split
        · omega
        · simp; omega
    simp only []
    rw [List.length_append]
    split
    · simp; omega
    · simp; omega
  · simp
theorem itoaK_len (n : Int) : (itoaK n).length ≤ 21 := by
  unfold itoaK
  split
  · have := digsN_len 20 n.natAbs; simp; omega
  · have := digsN_len 20 n.toNat; omega
theorem textL_len (K A B C X : Int) : (textL K A B C X).1.length ≤ 300 := by
  have h1 := itoaK_len A
  have h2 := itoaK_len B
  have h3 := itoaK_len C
  have h4 := clockL_len X
  unfold textL headL tailL
  split
  · simp only []
    rw [List.length_append]
    repeat' split
    all_goals (simp; omega)
  · simp
theorem nums_ok : ∀ a, a < 366 → ((digsN 20 a).all isDig = true ∧ valL (digsN 20 a) = a ∧ 1 ≤ (digsN 20 a).length ∧ (digsN 20 a).length ≤ 3 ∧ (a < 100 → (digsN 20 a).length ≤ 2) ∧ (a < 10 → (digsN 20 a).length ≤ 1)) := by decide +kernel
theorem numberL_app (a : Nat) (ha : a < 366) (m : Nat) (hm : (digsN 20 a).length ≤ m) (t : List UInt8) (ht : ∀ c, t.head? = some c → isDig c = false) : numberL (digsN 20 a ++ t) m = ((a : Int), t, true) := by
  obtain ⟨h1, h2, h3, _⟩ := nums_ok a ha
  unfold numberL
  rw [dl_app _ _ h1 ht, if_neg (by omega), List.take_left, List.drop_left, h2]
theorem digs_head (a : Nat) (ha : a < 366) (t : List UInt8) (c : UInt8) (hc : isDig c = false) : (digsN 20 a ++ t).head? ≠ some c := by
  obtain ⟨h1, _, h3, _⟩ := nums_ok a ha
  cases hd : digsN 20 a with
  | nil => rw [hd] at h3; simp at h3
  | cons x r =>
    rw [hd] at h1
    simp only [List.cons_append, List.head?_cons, ne_eq, Option.some.injEq]
    rintro rfl
    simp only [List.all_cons, Bool.and_eq_true] at h1
    rw [hc] at h1
    exact absurd h1.1 (by simp)
theorem date_head (K A B C X : Int) (hR : rightR K A B C X = true) (t : List UInt8) (ht : ∀ c, t.head? = some c → isDig c = false) : dateL (headL K A B C ++ t) = (K, A, B, C, t, true) := by
  have hr := (right_iff K A B C X).1 hR
  obtain ⟨a, rfl⟩ : ∃ a : Nat, A = (a : Int) := ⟨A.toNat, by omega⟩
  obtain ⟨b, rfl⟩ : ∃ a : Nat, B = (a : Int) := ⟨B.toNat, by omega⟩
  obtain ⟨c, rfl⟩ : ∃ a : Nat, C = (a : Int) := ⟨C.toNat, by omega⟩
  obtain ⟨_, _, _, a3, a2, _⟩ := nums_ok a (by omega)
  unfold dateL headL
  rw [itoaK_nat, itoaK_nat, itoaK_nat]
  by_cases k0 : K = 0
  · subst k0
    obtain ⟨_, _, _, _, _, b1⟩ := nums_ok b (by omega)
    obtain ⟨_, _, _, _, _, c1⟩ := nums_ok c (by omega)
    rw [if_pos rfl, List.cons_append, if_pos (by rfl)]
    simp only [List.tail_cons, List.append_assoc, List.cons_append]
    unfold weekL
    rw [numberL_app a (by omega) 2 (a2 (by omega)) _ (by intro c hc; simp at hc; subst hc; rfl)]
    simp only []
    rw [show cutP 46 (46 :: (digsN 20 b ++ 46 :: (digsN 20 c ++ t))) = (digsN 20 b ++ 46 :: (digsN 20 c ++ t), true) from rfl]
    simp only []
    rw [numberL_app b (by omega) 1 (b1 (by omega)) _ (by intro c hc; simp at hc; subst hc; rfl)]
    simp only []
    rw [show cutP 46 (46 :: (digsN 20 c ++ t)) = (digsN 20 c ++ t, true) from rfl]
    simp only []
    rw [numberL_app c (by omega) 1 (c1 (by omega)) _ ht]
    rfl
  · rw [if_neg k0]
    by_cases k1 : K = 1
    · subst k1
      rw [if_pos rfl, List.cons_append, if_neg (by simp), if_pos (by rfl), List.tail_cons, numberL_app a (by omega) 3 a3 _ ht]
      have : b = 0 ∧ c = 0 := by omega
      rw [this.1, this.2]; rfl
    · rw [if_neg k1, if_neg (digs_head a (by omega) t 77 rfl), if_neg (digs_head a (by omega) t 74 rfl), numberL_app a (by omega) 3 a3 _ ht]
      have : b = 0 ∧ c = 0 ∧ K = 2 := by omega
      rw [this.1, this.2.1, this.2.2]; rfl
theorem parse_text (K A B C X : Int) (hR : rightR K A B C X = true) (t : List UInt8) (ht : ∀ c, t.head? = some c → isDig c = false ∧ c ≠ 58 ∧ c ≠ 47) :
    parseL ((textL K A B C X).1 ++ t) = (K, A, B, C, X, t, true) := by
  have hr := (right_iff K A B C X).1 hR
  unfold textL
  rw [if_pos hR]
  simp only []
  rw [List.append_assoc]
  have hd : dateL (headL K A B C ++ (tailL X ++ t)) = (K, A, B, C, tailL X ++ t, true) := by
    refine date_head K A B C X hR _ ?_
    intro c hc
    unfold tailL at hc
    split at hc
    · exact (ht c hc).1
    · simp at hc; subst hc; rfl
  unfold parseL
  rw [hd]
  simp only []
  rw [if_pos trivial]
  unfold tailL
  by_cases x7 : X = 7200
  · subst x7
    rw [if_pos rfl, List.nil_append, if_neg (fun h => (ht _ h).2.2 rfl), if_pos hR]
  · rw [if_neg x7, List.cons_append, if_pos (by rfl), List.tail_cons, time_clock X hr.1 t (fun c hc => ⟨(ht c hc).1, (ht c hc).2.1⟩)]
    simp only []
    rw [if_pos ⟨trivial, hR⟩]

end Go.Proofs.YtcopbcfekmbhlaaGreatDoor.Pl
end
section
set_option linter.unusedVariables false
set_option linter.unusedSimpArgs false
namespace Go.Proofs.YtcopbcfekmbhlaaGreatDoor.Pl
open Go
set_option linter.unusedVariables false
set_option linter.unusedSimpArgs false

theorem digs_one (m n : Nat) (h : n < 10) : digsN (m + 1) n = [UInt8.ofNat (48 + n)] := by rw [digsN, if_pos h]
theorem digs_more (m n : Nat) (h : ¬ n < 10) : digsN (m + 1) n = digsN m (n / 10) ++ [UInt8.ofNat (48 + n % 10)] := by rw [digsN, if_neg h]
theorem sixty_no {c a b : UInt8} {r : List UInt8} (h : ¬ (c = 58 ∧ isDig a = true ∧ isDig b = true ∧ a.toNat ≤ 53)) : sixtyL (c :: a :: b :: r) = (0, c :: a :: b :: r, false) := if_neg h
theorem sixty_yes {c a b : UInt8} {r : List UInt8} (h : c = 58 ∧ isDig a = true ∧ isDig b = true ∧ a.toNat ≤ 53) : sixtyL (c :: a :: b :: r) = (10 * ((a.toNat : Int) - 48) + ((b.toNat : Int) - 48), r, true) := if_pos h
theorem isDig_iff (a : UInt8) : isDig a = true ↔ 48 ≤ a.toNat ∧ a.toNat ≤ 57 := by unfold isDig; simp
theorem valL_one (a : UInt8) : valL [a] = a.toNat - 48 := by simp [valL]
theorem valL_two (a b : UInt8) : valL [a, b] = 10 * (a.toNat - 48) + (b.toNat - 48) := by simp [valL]
theorem valL_three (a b c : UInt8) : valL [a, b, c] = 10 * (10 * (a.toNat - 48) + (b.toNat - 48)) + (c.toNat - 48) := by simp [valL]
theorem valL_snoc (a : List UInt8) (c : UInt8) : valL (a ++ [c]) = 10 * valL a + (c.toNat - 48) := by simp [valL, List.foldl_append]
theorem take_succ_at (l : List UInt8) (j : Nat) (h : j < l.length) : l.take (j + 1) = l.take j ++ [l[j]] := (List.take_append_getElem h).symm
theorem dl_digit (l : List UInt8) : ∀ j (h : j < dl l), isDig (l[j]'(Nat.lt_of_lt_of_le h (dl_le l))) = true := by
  intro j h
  have hl := dl_le l
  have := take_dl_dig l (j + 1) (by omega)
  rw [take_succ_at l j (by omega)] at this
  exact this _ (List.mem_append_right _ (List.mem_singleton.2 rfl))
theorem dl_stop (l : List UInt8) (h : dl l < l.length) : isDig l[dl l] = false := by
  induction l with
  | nil => simp at h
  | cons a r ih =>
    by_cases ha : isDig a = true
    · have e : dl (a :: r) = dl r + 1 := by rw [dl_cons, if_pos ha]
      have h' : dl r < r.length := by rw [e] at h; simpa using h
      have := ih h'
      simp only [e, List.getElem_cons_succ]
      exact this
    · have e : dl (a :: r) = 0 := by rw [dl_cons, if_neg ha]
      simp only [e, List.getElem_cons_zero]
      simpa using ha
def refNum (l : List UInt8) (m hi : Nat) : Int × List UInt8 := if dl l = 0 ∨ m < dl l ∨ hi < valL (l.take (dl l)) then (-1, l) else ((valL (l.take (dl l)) : Int), l.drop (dl l))
theorem refNum_yes {l : List UInt8} {m hi : Nat} (h : 0 ≤ (refNum l m hi).1) : numberL l m = ((refNum l m hi).1, (refNum l m hi).2, true) := by
  unfold refNum at h ⊢
  unfold numberL
  by_cases c : dl l = 0 ∨ m < dl l ∨ hi < valL (l.take (dl l))
  · rw [if_pos c] at h; simp at h
  · rw [if_neg c, if_neg (by omega)]
theorem refNum_of {l : List UInt8} {m hi : Nat} (h : (numberL l m).2.2 = true) (hv : (numberL l m).1 ≤ (hi : Int)) : refNum l m hi = ((numberL l m).1, (numberL l m).2.1) := by
  unfold numberL at h hv ⊢
  unfold refNum
  by_cases c : dl l = 0 ∨ m < dl l
  · rw [if_pos c] at h; cases h
  · rw [if_neg c] at hv ⊢
    rw [if_neg (by simp only [] at hv; omega)]
def refDot (l : List UInt8) : Int × List UInt8 := if l.head? = some 46 then refNum l.tail 1 9 else (-1, l)
def refHead (l : List UInt8) : Int × Int × Int × Int × List UInt8 :=
  if l.head? = some 77 then (0, (refNum l.tail 2 12).1, (refDot (refNum l.tail 2 12).2).1, refDot (refDot (refNum l.tail 2 12).2).2)
  else if l.head? = some 74 then (1, (refNum l.tail 3 365).1, 0, 0, (refNum l.tail 3 365).2) else (2, (refNum l 3 365).1, 0, 0, (refNum l 3 365).2)
theorem dot_yes {l : List UInt8} (h : 0 ≤ (refDot l).1) : cutP 46 l = (l.tail, true) ∧ numberL l.tail 1 = ((refDot l).1, (refDot l).2, true) := by
  unfold refDot at h ⊢
  unfold cutP
  by_cases c : l.head? = some 46
  · rw [if_pos c] at h ⊢
    rw [if_pos c]
    exact ⟨rfl, refNum_yes h⟩
  · rw [if_neg c] at h; simp at h
theorem dot_of {l : List UInt8} (h1 : (cutP 46 l).2 = true) (h2 : (numberL (cutP 46 l).1 1).2.2 = true) : refDot l = ((numberL (cutP 46 l).1 1).1, (numberL (cutP 46 l).1 1).2.1) := by
  unfold cutP at h1 h2 ⊢
  unfold refDot
  by_cases c : l.head? = some 46
  · rw [if_pos c] at h2 ⊢
    rw [if_pos c]
    have hb := numberL_bd l.tail 1
    exact refNum_of h2 (by have h3 := hb.2; rw [show ((10 ^ 1 : Nat) : Int) = 10 from rfl] at h3; omega)
  · rw [if_neg c] at h1; cases h1
theorem head_yes (l : List UInt8) (h : rightR (refHead l).1 (refHead l).2.1 (refHead l).2.2.1 (refHead l).2.2.2.1 7200 = true) :
    dateL l = ((refHead l).1, (refHead l).2.1, (refHead l).2.2.1, (refHead l).2.2.2.1, (refHead l).2.2.2.2, true) := by
  have hr := (right_iff _ _ _ _ _).1 h
  revert hr
  unfold refHead dateL
  by_cases h77 : l.head? = some 77
  · rw [if_pos h77, if_pos h77]
    simp only []
    intro hr
    have y1 := refNum_yes (l := l.tail) (m := 2) (hi := 12) (by omega)
    have y2 := dot_yes (l := (refNum l.tail 2 12).2) (by omega)
    have y3 := dot_yes (l := (refDot (refNum l.tail 2 12).2).2) (by omega)
    unfold weekL
    rw [y1]
    simp only []
    rw [y2.1]
    simp only []
    rw [y2.2]
    simp only []
    rw [y3.1]
    simp only []
    rw [y3.2]
    rfl
  · rw [if_neg h77, if_neg h77]
    by_cases h74 : l.head? = some 74
    · rw [if_pos h74, if_pos h74]
      simp only []
      intro hr
      rw [refNum_yes (l := l.tail) (m := 3) (hi := 365) (by omega)]
    · rw [if_neg h74, if_neg h74]
      simp only []
      intro hr
      rw [refNum_yes (l := l) (m := 3) (hi := 365) (by omega)]
theorem head_of (l : List UInt8) (ho : (dateL l).2.2.2.2.2 = true) (h : rightR (dateL l).1 (dateL l).2.1 (dateL l).2.2.1 (dateL l).2.2.2.1 7200 = true) :
    refHead l = ((dateL l).1, (dateL l).2.1, (dateL l).2.2.1, (dateL l).2.2.2.1, (dateL l).2.2.2.2.1) := by
  have hr := (right_iff _ _ _ _ _).1 h
  revert hr ho
  unfold refHead dateL
  by_cases h77 : l.head? = some 77
  · rw [if_pos h77, if_pos h77]
    simp only []
    unfold weekL
    simp only [Bool.and_eq_true]
    intro ho hr
    have z1 := refNum_of (l := l.tail) (m := 2) (hi := 12) ho.1.1.1.1 (by omega)
    rw [z1]
    simp only []
    have z2 := dot_of ho.1.2 ho.1.1.1.2
    rw [z2]
    simp only []
    have z3 := dot_of ho.2 ho.1.1.2
    rw [z3]
  · rw [if_neg h77, if_neg h77]
    by_cases h74 : l.head? = some 74
    · rw [if_pos h74, if_pos h74]
      simp only []
      intro ho hr
      rw [refNum_of (l := l.tail) (m := 3) (hi := 365) ho (by omega)]
    · rw [if_neg h74, if_neg h74]
      simp only []
      intro ho hr
      rw [refNum_of (l := l) (m := 3) (hi := 365) ho (by omega)]
theorem right_sec (K A B C X Y : Int) (hX : -604799 ≤ X ∧ X ≤ 604799) (hY : -604799 ≤ Y ∧ Y ≤ 604799) : rightR K A B C X = rightR K A B C Y := by
  rw [Bool.eq_iff_iff, right_iff, right_iff]
  constructor
  · intro h; exact ⟨hY, h.2⟩
  · intro h; exact ⟨hX, h.2⟩
theorem cum_one (y : Int) : cum y 1 = 0 := by unfold cum cum0; simp
/-- How many days of the weekday there are among the first t ones of the month, if r days are ahead of the first one. -/
def hits (r t : Int) : Int := (t + 6 - r) / 7
def manyW (r B t : Int) : Int := if hits r t ≤ B then hits r t else B
def atW (n r B t : Int) : Int := if manyW r B t = 0 then -1 else n + r + 7 * (manyW r B t - 1)

end Go.Proofs.YtcopbcfekmbhlaaGreatDoor.Pl
end
section
set_option linter.unusedVariables false
set_option linter.unusedSimpArgs false
namespace Go.Proofs.YtcopbcfekmbhlaaGreatDoor.Pl
open Go Go.Proofs.YtcopbcfekmbhlaaGreatDoor.Eng
set_option linter.unusedVariables false

theorem ifT {c : Prop} [Decidable c] {a b : Prop} (h : c) (ha : a) : if c then a else b := by rw [if_pos h]; exact ha
theorem ifF {c : Prop} [Decidable c] {a b : Prop} (h : ¬ c) (hb : b) : if c then a else b := by rw [if_neg h]; exact hb
theorem ifC {c : Prop} [Decidable c] {a b : Prop} (h1 : c → a) (h2 : ¬ c → b) : if c then a else b := by
  by_cases h : c
  · exact ifT h (h1 h)
  · exact ifF h (h2 h)
theorem w64_in {n : Int} (h0 : -9223372036854775808 ≤ n) (h1 : n ≤ 9223372036854775807) : w64 n = n := by
  simp only [w64, IntKind.wrap, IntKind.bits, IntKind.signed]
  try simp
  try omega
theorem bAt_S (l : List UInt8) (i : Nat) : Eng.bAt (S l) i = ((l.getD i 0).toNat : Int) := rfl
theorem bAt0 (c : UInt8) (l : List UInt8) : Eng.bAt (S (c :: l)) 0 = (c.toNat : Int) := rfl
theorem bAt1 (a c : UInt8) (l : List UInt8) : Eng.bAt (S (a :: c :: l)) 1 = (c.toNat : Int) := rfl
theorem bAt2 (a b c : UInt8) (l : List UInt8) : Eng.bAt (S (a :: b :: c :: l)) 2 = (c.toNat : Int) := rfl
/-- A loop that comes to an end: what holds ahead of each round, and a measure. -/
theorem lp_ind {α : Type} {F : (α → Prop) → α → Prop} (μ : α → Nat) (I : α → Prop) (h : ∀ x, I x → ∀ k : α → Prop, (∀ y, I y → μ y < μ x → k y) → F k x) {x : α} (hx : I x) : Eng.lp F x := by
  have key : ∀ n x, I x → μ x < n → itrT F n x := by
    intro n
    induction n with
    | zero => intro x _ hn; omega
    | succ n ih => intro x hx hn; exact h x hx _ fun y hy hlt => ih y hy (by omega)
  exact ⟨μ x + 1, key _ _ hx (Nat.lt_succ_self _)⟩

/-- A loop through given states. -/
theorem lp_nat {α : Type} {F : (α → Prop) → α → Prop} (st : Nat → α) (N : Nat) (h : ∀ n, n ≤ N → ∀ k : α → Prop, (n < N → k (st (n + 1))) → F k (st n)) : Eng.lp F (st 0) := by
  have key : ∀ d n, n + d = N → itrT F (d + 1) (st n) := by
    intro d
    induction d with
    | zero => intro n hn; exact h n (by omega) _ fun hlt => by omega
    | succ d ih => intro n hn; exact h n (by omega) _ fun hlt => ih (n + 1) (by omega)
  exact ⟨N + 1, key N 0 (by omega)⟩

theorem lp_at {α : Type} {F : (α → Prop) → α → Prop} {x : α} (st : Nat → α) (N : Nat) (h0 : x = st 0) (h : ∀ n, n ≤ N → ∀ k : α → Prop, (n < N → k (st (n + 1))) → F k (st n)) : Eng.lp F x := by
  rw [h0]; exact lp_nat st N h
/-- How many of a list's first elements are not such. -/
def nl (q : UInt8 → Bool) (l : List UInt8) : Nat := (l.takeWhile fun c => !q c).length
theorem nl_le (q : UInt8 → Bool) (l : List UInt8) : nl q l ≤ l.length := by unfold nl; exact (List.takeWhile_sublist _).length_le
theorem nl_cons (q : UInt8 → Bool) (c : UInt8) (l : List UInt8) : nl q (c :: l) = if q c = true then 0 else nl q l + 1 := by
  unfold nl; rw [List.takeWhile_cons]; cases q c <;> simp
theorem nl_any (q : UInt8 → Bool) (l : List UInt8) : l.any q = decide (nl q l < l.length) := by
  induction l with
  | nil => rfl
  | cons c l ih =>
    rw [List.any_cons, nl_cons, ih]
    cases q c <;> simp
theorem nl_of (q : UInt8 → Bool) : ∀ (l : List UInt8) (k : Nat), k ≤ l.length → (∀ c ∈ l.take k, q c = false) → (∀ h : k < l.length, q l[k] = true) → nl q l = k
  | [], k, hk, _, _ => by simp at hk; subst hk; rfl
  | c :: l, 0, _, _, h => by
    have h0 : q c = true := h (by simp)
    rw [nl_cons, if_pos h0]
  | c :: l, k + 1, hk, h1, h2 => by
    have hc := h1 c (by simp)
    rw [nl_cons, if_neg (by rw [hc]; simp), nl_of q l k (by simpa using hk) (fun d hd => h1 d (by rw [List.take_succ_cons]; exact .tail _ hd)) (fun h => by have := h2 (by simpa using h); simpa using this)]
theorem nl_spec (q : UInt8 → Bool) : ∀ (l : List UInt8) (j : Nat) (h : j < l.length), (j < nl q l → q l[j] = false) ∧ (j = nl q l → q l[j] = true)
  | [], j, h => by simp at h
  | c :: l, 0, _ => by
    rw [nl_cons]
    cases hq : q c
    · exact ⟨fun _ => hq, fun h => by simp at h⟩
    · exact ⟨fun h => by simp at h, fun _ => hq⟩
  | c :: l, j + 1, h => by
    have ih := nl_spec q l j (by simpa using h)
    rw [nl_cons]
    cases hq : q c
    · simp only [Bool.false_eq_true, if_false, List.getElem_cons_succ]
      exact ⟨fun h => ih.1 (by omega), fun h => ih.2 (by omega)⟩
    · exact ⟨fun h => by simp at h, fun h => by simp at h⟩
theorem indexByte_nl (l : List UInt8) (c : UInt8) : Lib.indexByte l c = if nl (· == c) l < l.length then (nl (· == c) l : Int) else -1 := by
  induction l with
  | nil => rfl
  | cons b l ih =>
    rw [Lib.indexByte, nl_cons, ih]
    cases hb : (b == c)
    · simp only [Bool.false_eq_true, if_false, List.length_cons]
      by_cases h : nl (· == c) l < l.length
      · rw [if_pos h, if_neg (by simp), if_pos (by omega)]; omega
      · rw [if_neg h, if_pos (by simp), if_neg (by omega)]
    · simp
theorem decode_lo (l : List UInt8) (pos : Nat) (h : pos < l.length) (ha : l[pos].toNat < 128) : Utf8.decode (S l) pos = (l[pos].toNat, 1) := decode_ascii (S l) pos (by rw [S_size]; exact h) ha
theorem decode_hi (l : List UInt8) (pos : Nat) (h : pos < l.length) (ha : 128 ≤ l[pos].toNat) : 128 ≤ (Utf8.decode (S l) pos).1 ∧ 1 ≤ (Utf8.decode (S l) pos).2 := decode_high (S l) pos (by rw [S_size]; exact h) ha
theorem S_toList' (l : List UInt8) : (S l).toList = l := S_toList l
end Go.Proofs.YtcopbcfekmbhlaaGreatDoor.Pl
end
section
set_option linter.unusedVariables false
set_option linter.unusedSimpArgs false
namespace Go.Proofs.YtcopbcfekmbhlaaGreatDoor.Pl
open Go
set_option linter.unusedVariables false
set_option linter.unusedSimpArgs false

/-- A text, cut at a sign. -/
def splitL (c : UInt8) (l : List UInt8) : List UInt8 × List UInt8 × Bool := if nl (· == c) l < l.length then (l.take (nl (· == c) l), l.drop (nl (· == c) l + 1), true) else (l, [], false)
/-- A sign that may not be in a name; one that is a letter; names of local times. -/
def badC (c : UInt8) : Bool := !((97 ≤ c.toNat && c.toNat ≤ 122) || (65 ≤ c.toNat && c.toNat ≤ 90) || (48 ≤ c.toNat && c.toNat ≤ 57) || c.toNat == 43 || c.toNat == 45)
def letC (c : UInt8) : Bool := (97 ≤ c.toNat && c.toNat ≤ 122) || (65 ≤ c.toNat && c.toNat ≤ 90)
def abbrL (l : List UInt8) : Bool := decide (3 ≤ l.length ∧ l.length ≤ 16) && !l.any badC

theorem sixty_bad (l : List UInt8) (h : (sixtyL l).2.2 = false) : (sixtyL l).1 = 0 ∧ (sixtyL l).2.1 = l := by
  match l, h with
  | [], _ => exact ⟨rfl, rfl⟩
  | [_], _ => exact ⟨rfl, rfl⟩
  | [_, _], _ => exact ⟨rfl, rfl⟩
  | c :: a :: b :: r, h =>
    by_cases hh : c = 58 ∧ isDig a = true ∧ isDig b = true ∧ a.toNat ≤ 53
    · rw [sixty_yes hh] at h; cases h
    · rw [sixty_no hh]; exact ⟨rfl, rfl⟩
structure Ru where
  k : Int
  a : Int
  b : Int
  c : Int
  x : Int
def Ru.z : Ru := ⟨0, 0, 0, 0, 0⟩
def Ru.ok (r : Ru) : Bool := rightR r.k r.a r.b r.c r.x
def Ru.txt (r : Ru) : List UInt8 := (textL r.k r.a r.b r.c r.x).1
def Ru.at (r : Ru) (y : Int) : Int := ruleDay r.k r.a r.b r.c y * 86400 + r.x
structure Ft where
  so : Int
  sd : Bool
  sa : List UInt8
  wo : Int
  wd : Bool
  wa : List UInt8
  has : Bool
  fr : Ru
  to : Ru
def Ft.z : Ft := ⟨0, false, [], 0, false, [], false, .z, .z⟩
def kindR (o : Int) (d : Bool) (l : List UInt8) (w : Bool) : Bool := abbrL l && (d == w) && decide (-89999 ≤ o ∧ o ≤ 89999)
def Ft.bare (f : Ft) : Prop := f.wo = 0 ∧ f.wd = false ∧ f.wa = [] ∧ (f.fr.k = 0 ∧ f.fr.a = 0 ∧ f.fr.b = 0 ∧ f.fr.c = 0 ∧ f.fr.x = 0) ∧ (f.to.k = 0 ∧ f.to.a = 0 ∧ f.to.b = 0 ∧ f.to.c = 0 ∧ f.to.x = 0)
instance (f : Ft) : Decidable f.bare := inferInstanceAs (Decidable (_ ∧ _))
def Ft.ok (f : Ft) : Bool := kindR f.so f.sd f.sa false && (if f.has = true then kindR f.wo f.wd f.wa true && f.fr.ok && f.to.ok else decide f.bare)
def nameT (l : List UInt8) : List UInt8 := if l.any (fun c => !letC c) = true then 60 :: (l ++ [62]) else l
def Ft.txt (f : Ft) : List UInt8 := nameT f.sa ++ ((clockL (-f.so)).1 ++ (if f.has = true then nameT f.wa ++ ((if f.wo - f.so ≠ 3600 then (clockL (-f.wo)).1 else []) ++ 44 :: (f.fr.txt ++ 44 :: f.to.txt)) else []))
def Ft.text (f : Ft) : List UInt8 × Bool := if f.ok = true then (f.txt, true) else ([], false)

/-- A name that is read: it, whether it may be, what is behind it. -/
def nameP (l : List UInt8) : List UInt8 × Bool × List UInt8 :=
  if l.head? = some 60 then ((splitL 62 l.tail).1, (splitL 62 l.tail).2.2 && abbrL (splitL 62 l.tail).1, (splitL 62 l.tail).2.1)
  else (l.take (nl (fun c => !letC c) l), abbrL (l.take (nl (fun c => !letC c) l)), l.drop (nl (fun c => !letC c) l))
structure Us where
  ok : Bool
  rest : List UInt8
  o : Int
  a : List UInt8
def usualP (l : List UInt8) : Us := ⟨(nameP l).2.1 && (timeL (nameP l).2.2).2.2, (timeL (nameP l).2.2).2.1, -(timeL (nameP l).2.2).1, (nameP l).1⟩
def summerP (so : Int) (l : List UInt8) : Us :=
  if (timeL (nameP l).2.2).2.2 = true then ⟨(nameP l).2.1, (timeL (nameP l).2.2).2.1, -(timeL (nameP l).2.2).1, (nameP l).1⟩ else ⟨(nameP l).2.1, (nameP l).2.2, so + 3600, (nameP l).1⟩
structure Rp where
  ok : Bool
  rest : List UInt8
  r : Ru
def ruleP (l : List UInt8) : Rp := ⟨(parseL (cutP 44 l).1).2.2.2.2.2.2 && (cutP 44 l).2, (parseL (cutP 44 l).1).2.2.2.2.2.1, ⟨(parseL (cutP 44 l).1).1, (parseL (cutP 44 l).1).2.1, (parseL (cutP 44 l).1).2.2.1, (parseL (cutP 44 l).1).2.2.2.1, (parseL (cutP 44 l).1).2.2.2.2.1⟩⟩
def Ft.chk (f : Ft) : Ft × Bool := if f.ok = true then (f, true) else (.z, false)
def Ft.parse (l : List UInt8) : Ft × Bool :=
  if (usualP l).ok = true then
    (if (usualP l).rest = [] then Ft.chk ⟨(usualP l).o, false, (usualP l).a, 0, false, [], false, .z, .z⟩
    else if (summerP (usualP l).o (usualP l).rest).ok = true then
      (if (ruleP (summerP (usualP l).o (usualP l).rest).rest).ok = true then
        (if (ruleP (ruleP (summerP (usualP l).o (usualP l).rest).rest).rest).ok = true then
          (if (ruleP (ruleP (summerP (usualP l).o (usualP l).rest).rest).rest).rest = [] then
            Ft.chk ⟨(usualP l).o, false, (usualP l).a, (summerP (usualP l).o (usualP l).rest).o, true, (summerP (usualP l).o (usualP l).rest).a, true, (ruleP (summerP (usualP l).o (usualP l).rest).rest).r, (ruleP (ruleP (summerP (usualP l).o (usualP l).rest).rest).rest).r⟩
          else (.z, false)) else (.z, false)) else (.z, false)) else (.z, false))
  else (.z, false)
/-- When the summer's time holds in a year. -/
def Ft.spans (f : Ft) (y : Int) : Prop := f.has = true ∧ f.ok = true ∧ 1 ≤ y ∧ y ≤ 9999
instance (f : Ft) (y : Int) : Decidable (f.spans y) := inferInstanceAs (Decidable (_ ∧ _))
def Ft.from' (f : Ft) (y : Int) : Int := f.fr.at y - f.so
def Ft.to' (f : Ft) (y : Int) : Int := f.to.at y - f.wo
/-- Whether a second's year is known; whether the summer's time holds. -/
def inDays (n : Int) : Prop := -719162 ≤ n / 86400 ∧ n / 86400 ≤ 2932896
instance (n : Int) : Decidable (inDays n) := inferInstanceAs (Decidable (_ ∧ _))
def Ft.sum (f : Ft) (p : Int) : Prop := inDays (p + f.so) ∧ f.spans (yearP ((p + f.so) / 86400)) ∧
  ((f.from' (yearP ((p + f.so) / 86400)) ≤ p ∧ p < f.to' (yearP ((p + f.so) / 86400))) ∨ (f.to' (yearP ((p + f.so) / 86400)) ≤ f.from' (yearP ((p + f.so) / 86400)) ∧ (f.from' (yearP ((p + f.so) / 86400)) ≤ p ∨ p < f.to' (yearP ((p + f.so) / 86400)))))
instance (f : Ft) (p : Int) : Decidable (f.sum p) := inferInstanceAs (Decidable (_ ∧ _))
end Go.Proofs.YtcopbcfekmbhlaaGreatDoor.Pl
end
